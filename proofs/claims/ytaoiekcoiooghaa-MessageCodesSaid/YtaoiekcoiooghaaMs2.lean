/- The contracts of the messages' New, Receivable, Deliver, Revive and Reroute, of the program and of the reference. No condition but the ranges that stand in each. -/
import Derived.Test.YtaoiekcoiooghaaMs1
import Derived.Test.YtaoiekcoiooghaaHn3
import Derived.Deep.DeepCutAuto
namespace Go.Proofs.Ytaoiekcoiooghaa
open Go.RowKit
/-- The empty message. -/
abbrev mZ : Value := .agg #[.int .i64 0, .int .i64 0, .int .i64 0, .int .i64 0, .int .i64 0, .int .i64 0, .string ⟨#[]⟩]
/-- What New returns beside the error. -/
def newV (a b c d : Int) (s : ByteArray) : Value := if mvE a b c 0 0 d s.size = 0 then .agg #[.int .i64 a, .int .i64 b, .int .i64 c, .int .i64 0, .int .i64 0, .int .i64 d, .string s] else mZ
theorem below7 {B b : Nat} {w W : World} (h : Below B w W) (hb : B ≤ b) (y0 y1 y2 y3 y4 y5 y6 : Value) :
    Below B w (((((((W.setCell ⟨b, 0, none⟩ y0).setCell ⟨b, 1, none⟩ y1).setCell ⟨b, 2, none⟩ y2).setCell ⟨b, 3, none⟩ y3).setCell ⟨b, 4, none⟩ y4).setCell ⟨b, 5, none⟩ y5).setCell ⟨b, 6, none⟩ y6) :=
  ((((((h.setCell hb _).setCell hb _).setCell hb _).setCell hb _).setCell hb _).setCell hb _).setCell hb _
set_option maxHeartbeats 1000000 in
set_option maxRecDepth 20000 in
theorem mnew_any (a b c d : Int) (s : ByteArray) (w : World) : Calls Try.prog 72 #[.int .i64 a, .int .i64 b, .int .i64 c, .int .i64 d, .string s] w fun e w' => e = .returned (.tuple #[newV a b c d s, .int .i64 (mvE a b c 0 0 d s.size)]) ∧ Below w.heap.size w w' := by
  have X0 := (Box7.new w 0 0 0 0 0 0 ⟨#[]⟩ 75).alloc (.cells #[.int .i64 a, .int .i64 b, .int .i64 c, .int .i64 0, .int .i64 0, .int .i64 d, .string s] 75)
  have X1 := Box7.new (w.alloc (.cells #[.int .i64 0, .int .i64 0, .int .i64 0, .int .i64 0, .int .i64 0, .int .i64 0, .string ⟨#[]⟩] 75)) a b c 0 0 d s 75
  rw [World.size_alloc] at X1
  have F0 := (Free.new w #[.int .i64 0, .int .i64 0, .int .i64 0, .int .i64 0, .int .i64 0, .int .i64 0, .string ⟨#[]⟩] 75).alloc (by simp) (.cells #[.int .i64 a, .int .i64 b, .int .i64 c, .int .i64 0, .int .i64 0, .int .i64 d, .string s] 75)
  have WB : Below w.heap.size w ((w.alloc (.cells #[.int .i64 0, .int .i64 0, .int .i64 0, .int .i64 0, .int .i64 0, .int .i64 0, .string ⟨#[]⟩] 75)).alloc (.cells #[.int .i64 a, .int .i64 b, .int .i64 c, .int .i64 0, .int .i64 0, .int .i64 d, .string s] 75)) := ((Below.refl _ _).alloc (Nat.le_refl _) _).alloc (by simp) _
  by_cases hz : mvE a b c 0 0 d s.size = 0
  · have HV : Hid (newV a b c d s = .agg #[.int .i64 a, .int .i64 b, .int .i64 c, .int .i64 0, .int .i64 0, .int .i64 d, .string s]) := hide (by rw [newV, if_pos hz])
    have HE := hide hz
    clear hz
    go_enter Try.func72, Try.ntmps72
    go_wp2_with fail
    refine (mval_any _ _ _ _ _ _ _ _).mono ?_
    rintro e w1 ⟨he, hb⟩
    rw [HE.out] at he
    subst he
    have W1 := WB.trans (hb.mono WB.size)
    have X0 := X0.below hb X0.1
    have X1 := X1.below hb X1.1
    have F0 := F0.below hb (by simp; omega)
    obtain ⟨p7, p0, p1, p2, p3, p4, p5, p6⟩ := X0
    obtain ⟨q7, q0, q1, q2, q3, q4, q5, q6⟩ := X1
    have f0 := F0 0
    have f1 := F0 1
    have f2 := F0 2
    have f3 := F0 3
    have f4 := F0 4
    have f5 := F0 5
    have f6 := F0 6
    clear F0 hb WB
    go_wp2_with fail
    refine bodyPost_ret (v := .tuple #[.agg #[.int .i64 a, .int .i64 b, .int .i64 c, .int .i64 0, .int .i64 0, .int .i64 d, .string s], .int .i64 0]) (by simp [results, Try.results72, go_sem, p0, p1, p2, p3, p4, p5, p6]) rfl ⟨by rw [HV.out, HE.out], ?_⟩
    exact below7 W1 (Nat.le_refl _) _ _ _ _ _ _ _
  · have HV : Hid (newV a b c d s = mZ) := hide (by rw [newV, if_neg hz])
    rw [HV.out]
    clear HV
    generalize hx : mvE a b c 0 0 d s.size = z at *
    have HE := hide hx
    have hz' : (z != 0) = true := by rw [bne_iff_ne]; exact hz
    clear hz hx
    go_enter Try.func72, Try.ntmps72
    go_wp2_with fail
    refine (mval_any _ _ _ _ _ _ _ _).mono ?_
    rintro e w1 ⟨he, hb⟩
    rw [HE.out] at he
    subst he
    have W1 := WB.trans (hb.mono WB.size)
    have X0 := X0.below hb X0.1
    have X1 := X1.below hb X1.1
    have F0 := F0.below hb (by simp; omega)
    obtain ⟨p7, p0, p1, p2, p3, p4, p5, p6⟩ := X0
    obtain ⟨q7, q0, q1, q2, q3, q4, q5, q6⟩ := X1
    have f0 := F0 0
    have f1 := F0 1
    have f2 := F0 2
    have f3 := F0 3
    have f4 := F0 4
    have f5 := F0 5
    have f6 := F0 6
    clear F0 hb WB
    go_wp2_with fail
    refine bodyPost_ret (v := .tuple #[mZ, .int .i64 z]) (by simp [results, Try.results72, go_sem, p0, p1, p2, p3, p4, p5, p6]) rfl ⟨rfl, ?_⟩
    exact below7 W1 (Nat.le_refl _) _ _ _ _ _ _ _
set_option maxHeartbeats 1000000 in
set_option maxRecDepth 20000 in
theorem rmnew_any (a b c d : Int) (s : ByteArray) (w : World) : Calls Try.prog 73 #[.int .i64 a, .int .i64 b, .int .i64 c, .int .i64 d, .string s] w fun e w' => e = .returned (.tuple #[newV a b c d s, .int .i64 (mvE a b c 0 0 d s.size)]) ∧ Below w.heap.size w w' := by
  have X0 := (Box7.new w 0 0 0 0 0 0 ⟨#[]⟩ 75).alloc (.cells #[.int .i64 a, .int .i64 b, .int .i64 c, .int .i64 0, .int .i64 0, .int .i64 d, .string s] 75)
  have X1 := Box7.new (w.alloc (.cells #[.int .i64 0, .int .i64 0, .int .i64 0, .int .i64 0, .int .i64 0, .int .i64 0, .string ⟨#[]⟩] 75)) a b c 0 0 d s 75
  rw [World.size_alloc] at X1
  have F0 := (Free.new w #[.int .i64 0, .int .i64 0, .int .i64 0, .int .i64 0, .int .i64 0, .int .i64 0, .string ⟨#[]⟩] 75).alloc (by simp) (.cells #[.int .i64 a, .int .i64 b, .int .i64 c, .int .i64 0, .int .i64 0, .int .i64 d, .string s] 75)
  have WB : Below w.heap.size w ((w.alloc (.cells #[.int .i64 0, .int .i64 0, .int .i64 0, .int .i64 0, .int .i64 0, .int .i64 0, .string ⟨#[]⟩] 75)).alloc (.cells #[.int .i64 a, .int .i64 b, .int .i64 c, .int .i64 0, .int .i64 0, .int .i64 d, .string s] 75)) := ((Below.refl _ _).alloc (Nat.le_refl _) _).alloc (by simp) _
  by_cases hz : mvE a b c 0 0 d s.size = 0
  · have HV : Hid (newV a b c d s = .agg #[.int .i64 a, .int .i64 b, .int .i64 c, .int .i64 0, .int .i64 0, .int .i64 d, .string s]) := hide (by rw [newV, if_pos hz])
    have HE := hide hz
    clear hz
    go_enter Try.func73, Try.ntmps73
    go_wp2_with fail
    refine (rmval_any _ _ _ _ _ _ _ _).mono ?_
    rintro e w1 ⟨he, hb⟩
    rw [HE.out] at he
    subst he
    have W1 := WB.trans (hb.mono WB.size)
    have X0 := X0.below hb X0.1
    have X1 := X1.below hb X1.1
    have F0 := F0.below hb (by simp; omega)
    obtain ⟨p7, p0, p1, p2, p3, p4, p5, p6⟩ := X0
    obtain ⟨q7, q0, q1, q2, q3, q4, q5, q6⟩ := X1
    have f0 := F0 0
    have f1 := F0 1
    have f2 := F0 2
    have f3 := F0 3
    have f4 := F0 4
    have f5 := F0 5
    have f6 := F0 6
    clear F0 hb WB
    go_wp2_with fail
    refine bodyPost_ret (v := .tuple #[.agg #[.int .i64 a, .int .i64 b, .int .i64 c, .int .i64 0, .int .i64 0, .int .i64 d, .string s], .int .i64 0]) (by simp [results, Try.results73, go_sem, p0, p1, p2, p3, p4, p5, p6]) rfl ⟨by rw [HV.out, HE.out], ?_⟩
    exact below7 W1 (Nat.le_refl _) _ _ _ _ _ _ _
  · have HV : Hid (newV a b c d s = mZ) := hide (by rw [newV, if_neg hz])
    rw [HV.out]
    clear HV
    generalize hx : mvE a b c 0 0 d s.size = z at *
    have HE := hide hx
    have hz' : (z != 0) = true := by rw [bne_iff_ne]; exact hz
    clear hz hx
    go_enter Try.func73, Try.ntmps73
    go_wp2_with fail
    refine (rmval_any _ _ _ _ _ _ _ _).mono ?_
    rintro e w1 ⟨he, hb⟩
    rw [HE.out] at he
    subst he
    have W1 := WB.trans (hb.mono WB.size)
    have X0 := X0.below hb X0.1
    have X1 := X1.below hb X1.1
    have F0 := F0.below hb (by simp; omega)
    obtain ⟨p7, p0, p1, p2, p3, p4, p5, p6⟩ := X0
    obtain ⟨q7, q0, q1, q2, q3, q4, q5, q6⟩ := X1
    have f0 := F0 0
    have f1 := F0 1
    have f2 := F0 2
    have f3 := F0 3
    have f4 := F0 4
    have f5 := F0 5
    have f6 := F0 6
    clear F0 hb WB
    go_wp2_with fail
    refine bodyPost_ret (v := .tuple #[mZ, .int .i64 z]) (by simp [results, Try.results73, go_sem, p0, p1, p2, p3, p4, p5, p6]) rfl ⟨rfl, ?_⟩
    exact below7 W1 (Nat.le_refl _) _ _ _ _ _ _ _
/-- Can a message be received? -/
def rcv (x2 x3 x4 ep lim : Int) : Bool := !decide (x2 < ep) && !decide (lim ≤ x3) && decide (x4 < 65536)
set_option maxHeartbeats 1000000 in
set_option maxRecDepth 20000 in
theorem mrcv_any (x0 x1 x2 x3 x4 x5 : Int) (s : ByteArray) (ep lim : Int) (w : World) : Calls Try.prog 69 #[.agg #[.int .i64 x0, .int .i64 x1, .int .i64 x2, .int .i64 x3, .int .i64 x4, .int .i64 x5, .string s], .int .i64 ep, .int .i64 lim] w fun e w' => e = .returned (.bool (rcv x2 x3 x4 ep lim)) ∧ Below w.heap.size w w' := by
  have X0 := Box7.new w x0 x1 x2 x3 x4 x5 s 75
  have WB : Below w.heap.size w (w.alloc (.cells #[.int .i64 x0, .int .i64 x1, .int .i64 x2, .int .i64 x3, .int .i64 x4, .int .i64 x5, .string s] 75)) := (Below.refl _ _).alloc (Nat.le_refl _) _
  unfold rcv
  generalize hd : decide (x2 < ep) = d
  have HD := hide hd
  clear hd
  generalize hd : decide (lim ≤ x3) = d2
  have HD2 := hide hd
  clear hd
  go_enter Try.func69, Try.ntmps69
  go_wp2_with fail
  refine (mpur_any _ _ _ _ _ _ _ _ _).mono ?_
  rintro e w1 ⟨he, hb⟩
  have W1 := WB.trans (hb.mono WB.size)
  have X1 := X0.below hb X0.1
  have X1' := X1
  obtain ⟨p7, p0, p1, p2, p3, p4, p5, p6⟩ := X1'
  clear X0 hb WB
  rw [HD.out] at he
  subst he
  cases d
  · go_wp2_with fail
    refine (mspent_any _ _ _ _ _ _ _ _ _).mono ?_
    rintro e w2 ⟨he, hb⟩
    have W2 := W1.trans (hb.mono W1.size)
    have X2 := X1.below hb X1.1
    obtain ⟨_, t0, t1, t2, t3, t4, t5, t6⟩ := X2
    clear X1 hb W1 p0 p1 p2 p3 p4 p5 p6
    rw [HD2.out] at he
    subst he
    cases d2
    all_goals go_wp2_with fail
    all_goals go_ret
    all_goals exact ⟨by simp <;> omega, W2⟩
  · go_wp2_with fail
    go_ret
    exact ⟨by simp, W1⟩
set_option maxHeartbeats 1000000 in
set_option maxRecDepth 20000 in
theorem rmrcv_any (x0 x1 x2 x3 x4 x5 : Int) (s : ByteArray) (ep lim : Int) (w : World) : Calls Try.prog 70 #[.agg #[.int .i64 x0, .int .i64 x1, .int .i64 x2, .int .i64 x3, .int .i64 x4, .int .i64 x5, .string s], .int .i64 ep, .int .i64 lim] w fun e w' => e = .returned (.bool (rcv x2 x3 x4 ep lim)) ∧ Below w.heap.size w w' := by
  have X0 := Box7.new w x0 x1 x2 x3 x4 x5 s 75
  have WB : Below w.heap.size w (w.alloc (.cells #[.int .i64 x0, .int .i64 x1, .int .i64 x2, .int .i64 x3, .int .i64 x4, .int .i64 x5, .string s] 75)) := (Below.refl _ _).alloc (Nat.le_refl _) _
  unfold rcv
  generalize hd : decide (x2 < ep) = d
  have HD := hide hd
  clear hd
  generalize hd : decide (lim ≤ x3) = d2
  have HD2 := hide hd
  clear hd
  go_enter Try.func70, Try.ntmps70
  go_wp2_with fail
  refine (rmpur_any _ _ _ _ _ _ _ _ _).mono ?_
  rintro e w1 ⟨he, hb⟩
  have W1 := WB.trans (hb.mono WB.size)
  have X1 := X0.below hb X0.1
  have X1' := X1
  obtain ⟨p7, p0, p1, p2, p3, p4, p5, p6⟩ := X1'
  clear X0 hb WB
  rw [HD.out] at he
  subst he
  cases d
  · go_wp2_with fail
    refine (rmspent_any _ _ _ _ _ _ _ _ _).mono ?_
    rintro e w2 ⟨he, hb⟩
    have W2 := W1.trans (hb.mono W1.size)
    have X2 := X1.below hb X1.1
    obtain ⟨_, t0, t1, t2, t3, t4, t5, t6⟩ := X2
    clear X1 hb W1 p0 p1 p2 p3 p4 p5 p6
    rw [HD2.out] at he
    subst he
    cases d2
    all_goals go_wp2_with fail
    all_goals go_ret
    all_goals exact ⟨by simp <;> omega, W2⟩
  · go_wp2_with fail
    go_ret
    exact ⟨by simp, W1⟩
/-- What Deliver returns. -/
def delE (x0 x1 x2 x3 x4 x5 n : Int) : Int := if mvE x0 x1 x2 x3 x4 x5 n ≠ 0 then mvE x0 x1 x2 x3 x4 x5 n else if x4 = 65536 then 6 else if x3 = 8 then 7 else 0
def delV (x0 x1 x2 x3 x4 x5 : Int) (s : ByteArray) : Value := if delE x0 x1 x2 x3 x4 x5 s.size ≠ 0 then mZ else .agg #[.int .i64 x0, .int .i64 x1, .int .i64 x2, .int .i64 (x3 + 1), .int .i64 (x4 + 1), .int .i64 x5, .string s]
theorem mvE_ok {x0 x1 x2 x3 x4 x5 n : Int} (h : mvE x0 x1 x2 x3 x4 x5 n = 0) : 1 ≤ x0 ∧ x0 ≤ 1073741824 ∧ 0 ≤ x1 ∧ x1 ≤ 65535 ∧ 0 ≤ x2 ∧ x2 ≤ 65536 ∧ 0 ≤ x3 ∧ x3 ≤ 8 ∧ x3 ≤ x4 ∧ x4 ≤ 65536 ∧ 0 ≤ x5 ∧ x5 ≤ 1073741824 ∧ n ≤ 16 := by
  unfold mvE at h
  split at h
  · rename_i hc
    simp only [Bool.and_eq_true, inB_iff] at hc
    split at h
    · omega
    · omega
  · omega
theorem mvE_yes {x0 x1 x2 x3 x4 x5 n : Int} (h : 1 ≤ x0 ∧ x0 ≤ 1073741824 ∧ 0 ≤ x1 ∧ x1 ≤ 65535 ∧ 0 ≤ x2 ∧ x2 ≤ 65536 ∧ 0 ≤ x3 ∧ x3 ≤ 8 ∧ x3 ≤ x4 ∧ x4 ≤ 65536 ∧ 0 ≤ x5 ∧ x5 ≤ 1073741824 ∧ n ≤ 16) : mvE x0 x1 x2 x3 x4 x5 n = 0 := by
  unfold mvE
  rw [if_pos (by simp only [Bool.and_eq_true, inB_iff]; omega), if_neg (by omega)]
set_option maxHeartbeats 2000000 in
set_option maxRecDepth 20000 in
theorem mdel_any (x0 x1 x2 x3 x4 x5 : Int) (s : ByteArray) (w : World) : Calls Try.prog 81 #[.agg #[.int .i64 x0, .int .i64 x1, .int .i64 x2, .int .i64 x3, .int .i64 x4, .int .i64 x5, .string s]] w fun e w' => e = .returned (.tuple #[delV x0 x1 x2 x3 x4 x5 s, .int .i64 (delE x0 x1 x2 x3 x4 x5 s.size)]) ∧ Below w.heap.size w w' := by
  have X0 := (Box7.new w x0 x1 x2 x3 x4 x5 s 75).alloc (.cells #[.int .i64 0, .int .i64 0, .int .i64 0, .int .i64 0, .int .i64 0, .int .i64 0, .string ⟨#[]⟩] 75)
  have X1 := Box7.new (w.alloc (.cells #[.int .i64 x0, .int .i64 x1, .int .i64 x2, .int .i64 x3, .int .i64 x4, .int .i64 x5, .string s] 75)) 0 0 0 0 0 0 ⟨#[]⟩ 75
  rw [World.size_alloc] at X1
  have F0 := (Free.new w #[.int .i64 x0, .int .i64 x1, .int .i64 x2, .int .i64 x3, .int .i64 x4, .int .i64 x5, .string s] 75).alloc (by simp) (.cells #[.int .i64 0, .int .i64 0, .int .i64 0, .int .i64 0, .int .i64 0, .int .i64 0, .string ⟨#[]⟩] 75)
  have F1 := Free.new (w.alloc (.cells #[.int .i64 x0, .int .i64 x1, .int .i64 x2, .int .i64 x3, .int .i64 x4, .int .i64 x5, .string s] 75)) #[.int .i64 0, .int .i64 0, .int .i64 0, .int .i64 0, .int .i64 0, .int .i64 0, .string ⟨#[]⟩] 75
  rw [World.size_alloc] at F1
  have WB : Below w.heap.size w ((w.alloc (.cells #[.int .i64 x0, .int .i64 x1, .int .i64 x2, .int .i64 x3, .int .i64 x4, .int .i64 x5, .string s] 75)).alloc (.cells #[.int .i64 0, .int .i64 0, .int .i64 0, .int .i64 0, .int .i64 0, .int .i64 0, .string ⟨#[]⟩] 75)) := ((Below.refl _ _).alloc (Nat.le_refl _) _).alloc (by simp) _
  by_cases hz : mvE x0 x1 x2 x3 x4 x5 s.size = 0
  · have hk := mvE_ok hz
    by_cases h4 : x4 = 65536
    · have HE : Hid (delE x0 x1 x2 x3 x4 x5 s.size = 6) := hide (by rw [delE, if_neg (by simp [hz]), if_pos h4])
      have HV : Hid (delV x0 x1 x2 x3 x4 x5 s = mZ) := hide (by rw [delV, HE.out, if_pos (by decide)])
      have h4' : (x4 == 65536) = true := by rw [beq_iff_eq]; exact h4
      have HM := hide hz
      clear hz hk h4
      go_enter Try.func81, Try.ntmps81
      go_wp2_with fail
      refine (mval_any _ _ _ _ _ _ _ _).mono ?_
      rintro e w1 ⟨he, hb⟩
      rw [HM.out] at he
      subst he
      have W1 := WB.trans (hb.mono WB.size)
      have X0 := X0.below hb X0.1
      have F1 := F1.below hb X1.1
      have X1 := X1.below hb X1.1
      have F0 := F0.below hb (by simp; omega)
      obtain ⟨p7, p0, p1, p2, p3, p4, p5, p6⟩ := X0
      obtain ⟨q7, q0, q1, q2, q3, q4, q5, q6⟩ := X1
      have f0 := F0 0
      have f1 := F0 1
      have f2 := F0 2
      have f3 := F0 3
      have f4 := F0 4
      have f5 := F0 5
      have f6 := F0 6
      have g0 := F1 0
      have g1 := F1 1
      have g2 := F1 2
      have g3 := F1 3
      have g4 := F1 4
      have g5 := F1 5
      have g6 := F1 6
      clear F0 F1 hb WB
      go_wp2_with fail
      refine bodyPost_ret (v := .tuple #[mZ, .int .i64 6]) (by simp [results, Try.results81, go_sem, q0, q1, q2, q3, q4, q5, q6]) rfl ⟨by rw [HE.out, HV.out], ?_⟩
      exact below7 W1 (Nat.le_succ _) _ _ _ _ _ _ _
    · have h4' : (x4 == 65536) = false := by rw [beq_eq_false_iff_ne]; exact h4
      by_cases h3 : x3 = 8
      · have HE : Hid (delE x0 x1 x2 x3 x4 x5 s.size = 7) := hide (by rw [delE, if_neg (by simp [hz]), if_neg h4, if_pos h3])
        have HV : Hid (delV x0 x1 x2 x3 x4 x5 s = mZ) := hide (by rw [delV, HE.out, if_pos (by decide)])
        have h3' : (x3 == 8) = true := by rw [beq_iff_eq]; exact h3
        have HM := hide hz
        clear hz hk h4 h3
        go_enter Try.func81, Try.ntmps81
        go_wp2_with fail
        refine (mval_any _ _ _ _ _ _ _ _).mono ?_
        rintro e w1 ⟨he, hb⟩
        rw [HM.out] at he
        subst he
        have W1 := WB.trans (hb.mono WB.size)
        have X0 := X0.below hb X0.1
        have F1 := F1.below hb X1.1
        have X1 := X1.below hb X1.1
        have F0 := F0.below hb (by simp; omega)
        obtain ⟨p7, p0, p1, p2, p3, p4, p5, p6⟩ := X0
        obtain ⟨q7, q0, q1, q2, q3, q4, q5, q6⟩ := X1
        have f0 := F0 0
        have f1 := F0 1
        have f2 := F0 2
        have f3 := F0 3
        have f4 := F0 4
        have f5 := F0 5
        have f6 := F0 6
        have g0 := F1 0
        have g1 := F1 1
        have g2 := F1 2
        have g3 := F1 3
        have g4 := F1 4
        have g5 := F1 5
        have g6 := F1 6
        clear F0 F1 hb WB
        go_wp2_with fail
        refine bodyPost_ret (v := .tuple #[mZ, .int .i64 7]) (by simp [results, Try.results81, go_sem, q0, q1, q2, q3, q4, q5, q6]) rfl ⟨by rw [HE.out, HV.out], ?_⟩
        exact below7 W1 (Nat.le_succ _) _ _ _ _ _ _ _
      · have HE : Hid (delE x0 x1 x2 x3 x4 x5 s.size = 0) := hide (by rw [delE, if_neg (by simp [hz]), if_neg h4, if_neg h3])
        have HV : Hid (delV x0 x1 x2 x3 x4 x5 s = .agg #[.int .i64 x0, .int .i64 x1, .int .i64 x2, .int .i64 (x3 + 1), .int .i64 (x4 + 1), .int .i64 x5, .string s]) := hide (by rw [delV, HE.out, if_neg (by decide)])
        have h3' : (x3 == 8) = false := by rw [beq_eq_false_iff_ne]; exact h3
        have k3 : 0 ≤ x3 ∧ x3 ≤ 8 := by omega
        have k4 : 0 ≤ x4 ∧ x4 ≤ 65536 := by omega
        obtain ⟨k3a, k3b⟩ := k3
        obtain ⟨k4a, k4b⟩ := k4
        have HM := hide hz
        clear hz hk h4 h3
        go_enter Try.func81, Try.ntmps81
        go_wp2_with fail
        refine (mval_any _ _ _ _ _ _ _ _).mono ?_
        rintro e w1 ⟨he, hb⟩
        rw [HM.out] at he
        subst he
        have W1 := WB.trans (hb.mono WB.size)
        have X0 := X0.below hb X0.1
        have F1 := F1.below hb X1.1
        have X1 := X1.below hb X1.1
        have F0 := F0.below hb (by simp; omega)
        obtain ⟨p7, p0, p1, p2, p3, p4, p5, p6⟩ := X0
        obtain ⟨q7, q0, q1, q2, q3, q4, q5, q6⟩ := X1
        have f0 := F0 0
        have f1 := F0 1
        have f2 := F0 2
        have f3 := F0 3
        have f4 := F0 4
        have f5 := F0 5
        have f6 := F0 6
        have g0 := F1 0
        have g1 := F1 1
        have g2 := F1 2
        have g3 := F1 3
        have g4 := F1 4
        have g5 := F1 5
        have g6 := F1 6
        clear F0 F1 hb WB
        go_wp2_with fail
        refine bodyPost_ret (v := .tuple #[.agg #[.int .i64 x0, .int .i64 x1, .int .i64 x2, .int .i64 (x3 + 1), .int .i64 (x4 + 1), .int .i64 x5, .string s], .int .i64 0]) (by simp [results, Try.results81, go_sem, q0, q1, q2, q3, q4, q5, q6]) rfl ⟨by rw [HE.out, HV.out], ?_⟩
        exact below7 ((W1.setCell (p := ⟨w.heap.size, 3, none⟩) (Nat.le_refl _) _).setCell (p := ⟨w.heap.size, 4, none⟩) (Nat.le_refl _) _) (Nat.le_succ _) _ _ _ _ _ _ _
  · have HE : Hid (delE x0 x1 x2 x3 x4 x5 s.size = mvE x0 x1 x2 x3 x4 x5 s.size) := hide (by rw [delE, if_pos hz])
    have HV : Hid (delV x0 x1 x2 x3 x4 x5 s = mZ) := hide (by rw [delV, HE.out, if_pos hz])
    rw [HE.out, HV.out]
    clear HE HV
    generalize hx : mvE x0 x1 x2 x3 x4 x5 s.size = z at *
    have hz' : (z != 0) = true := by rw [bne_iff_ne]; exact hz
    have HM := hide hx
    clear hz hx
    go_enter Try.func81, Try.ntmps81
    go_wp2_with fail
    refine (mval_any _ _ _ _ _ _ _ _).mono ?_
    rintro e w1 ⟨he, hb⟩
    rw [HM.out] at he
    subst he
    have W1 := WB.trans (hb.mono WB.size)
    have X0 := X0.below hb X0.1
    have F1 := F1.below hb X1.1
    have X1 := X1.below hb X1.1
    have F0 := F0.below hb (by simp; omega)
    obtain ⟨p7, p0, p1, p2, p3, p4, p5, p6⟩ := X0
    obtain ⟨q7, q0, q1, q2, q3, q4, q5, q6⟩ := X1
    have f0 := F0 0
    have f1 := F0 1
    have f2 := F0 2
    have f3 := F0 3
    have f4 := F0 4
    have f5 := F0 5
    have f6 := F0 6
    have g0 := F1 0
    have g1 := F1 1
    have g2 := F1 2
    have g3 := F1 3
    have g4 := F1 4
    have g5 := F1 5
    have g6 := F1 6
    clear F0 F1 hb WB
    go_wp2_with fail
    refine bodyPost_ret (v := .tuple #[mZ, .int .i64 z]) (by simp [results, Try.results81, go_sem, q0, q1, q2, q3, q4, q5, q6]) rfl ⟨rfl, ?_⟩
    exact below7 W1 (Nat.le_succ _) _ _ _ _ _ _ _
set_option maxHeartbeats 2000000 in
set_option maxRecDepth 20000 in
theorem rmdel_any (x0 x1 x2 x3 x4 x5 : Int) (s : ByteArray) (w : World) : Calls Try.prog 82 #[.agg #[.int .i64 x0, .int .i64 x1, .int .i64 x2, .int .i64 x3, .int .i64 x4, .int .i64 x5, .string s]] w fun e w' => e = .returned (.tuple #[delV x0 x1 x2 x3 x4 x5 s, .int .i64 (delE x0 x1 x2 x3 x4 x5 s.size)]) ∧ Below w.heap.size w w' := by
  have X0 := (Box7.new w x0 x1 x2 x3 x4 x5 s 75).alloc (.cells #[.int .i64 0, .int .i64 0, .int .i64 0, .int .i64 0, .int .i64 0, .int .i64 0, .string ⟨#[]⟩] 75)
  have X1 := Box7.new (w.alloc (.cells #[.int .i64 x0, .int .i64 x1, .int .i64 x2, .int .i64 x3, .int .i64 x4, .int .i64 x5, .string s] 75)) 0 0 0 0 0 0 ⟨#[]⟩ 75
  rw [World.size_alloc] at X1
  have F0 := (Free.new w #[.int .i64 x0, .int .i64 x1, .int .i64 x2, .int .i64 x3, .int .i64 x4, .int .i64 x5, .string s] 75).alloc (by simp) (.cells #[.int .i64 0, .int .i64 0, .int .i64 0, .int .i64 0, .int .i64 0, .int .i64 0, .string ⟨#[]⟩] 75)
  have F1 := Free.new (w.alloc (.cells #[.int .i64 x0, .int .i64 x1, .int .i64 x2, .int .i64 x3, .int .i64 x4, .int .i64 x5, .string s] 75)) #[.int .i64 0, .int .i64 0, .int .i64 0, .int .i64 0, .int .i64 0, .int .i64 0, .string ⟨#[]⟩] 75
  rw [World.size_alloc] at F1
  have WB : Below w.heap.size w ((w.alloc (.cells #[.int .i64 x0, .int .i64 x1, .int .i64 x2, .int .i64 x3, .int .i64 x4, .int .i64 x5, .string s] 75)).alloc (.cells #[.int .i64 0, .int .i64 0, .int .i64 0, .int .i64 0, .int .i64 0, .int .i64 0, .string ⟨#[]⟩] 75)) := ((Below.refl _ _).alloc (Nat.le_refl _) _).alloc (by simp) _
  by_cases hz : mvE x0 x1 x2 x3 x4 x5 s.size = 0
  · have hk := mvE_ok hz
    by_cases h4 : x4 = 65536
    · have HE : Hid (delE x0 x1 x2 x3 x4 x5 s.size = 6) := hide (by rw [delE, if_neg (by simp [hz]), if_pos h4])
      have HV : Hid (delV x0 x1 x2 x3 x4 x5 s = mZ) := hide (by rw [delV, HE.out, if_pos (by decide)])
      have h4' : (x4 == 65536) = true := by rw [beq_iff_eq]; exact h4
      have HM := hide hz
      clear hz hk h4
      go_enter Try.func82, Try.ntmps82
      go_wp2_with fail
      refine (rmval_any _ _ _ _ _ _ _ _).mono ?_
      rintro e w1 ⟨he, hb⟩
      rw [HM.out] at he
      subst he
      have W1 := WB.trans (hb.mono WB.size)
      have X0 := X0.below hb X0.1
      have F1 := F1.below hb X1.1
      have X1 := X1.below hb X1.1
      have F0 := F0.below hb (by simp; omega)
      obtain ⟨p7, p0, p1, p2, p3, p4, p5, p6⟩ := X0
      obtain ⟨q7, q0, q1, q2, q3, q4, q5, q6⟩ := X1
      have f0 := F0 0
      have f1 := F0 1
      have f2 := F0 2
      have f3 := F0 3
      have f4 := F0 4
      have f5 := F0 5
      have f6 := F0 6
      have g0 := F1 0
      have g1 := F1 1
      have g2 := F1 2
      have g3 := F1 3
      have g4 := F1 4
      have g5 := F1 5
      have g6 := F1 6
      clear F0 F1 hb WB
      go_wp2_with fail
      refine bodyPost_ret (v := .tuple #[mZ, .int .i64 6]) (by simp [results, Try.results82, go_sem, q0, q1, q2, q3, q4, q5, q6]) rfl ⟨by rw [HE.out, HV.out], ?_⟩
      exact below7 W1 (Nat.le_succ _) _ _ _ _ _ _ _
    · have h4' : (x4 == 65536) = false := by rw [beq_eq_false_iff_ne]; exact h4
      by_cases h3 : x3 = 8
      · have HE : Hid (delE x0 x1 x2 x3 x4 x5 s.size = 7) := hide (by rw [delE, if_neg (by simp [hz]), if_neg h4, if_pos h3])
        have HV : Hid (delV x0 x1 x2 x3 x4 x5 s = mZ) := hide (by rw [delV, HE.out, if_pos (by decide)])
        have h3' : (x3 == 8) = true := by rw [beq_iff_eq]; exact h3
        have HM := hide hz
        clear hz hk h4 h3
        go_enter Try.func82, Try.ntmps82
        go_wp2_with fail
        refine (rmval_any _ _ _ _ _ _ _ _).mono ?_
        rintro e w1 ⟨he, hb⟩
        rw [HM.out] at he
        subst he
        have W1 := WB.trans (hb.mono WB.size)
        have X0 := X0.below hb X0.1
        have F1 := F1.below hb X1.1
        have X1 := X1.below hb X1.1
        have F0 := F0.below hb (by simp; omega)
        obtain ⟨p7, p0, p1, p2, p3, p4, p5, p6⟩ := X0
        obtain ⟨q7, q0, q1, q2, q3, q4, q5, q6⟩ := X1
        have f0 := F0 0
        have f1 := F0 1
        have f2 := F0 2
        have f3 := F0 3
        have f4 := F0 4
        have f5 := F0 5
        have f6 := F0 6
        have g0 := F1 0
        have g1 := F1 1
        have g2 := F1 2
        have g3 := F1 3
        have g4 := F1 4
        have g5 := F1 5
        have g6 := F1 6
        clear F0 F1 hb WB
        go_wp2_with fail
        refine bodyPost_ret (v := .tuple #[mZ, .int .i64 7]) (by simp [results, Try.results82, go_sem, q0, q1, q2, q3, q4, q5, q6]) rfl ⟨by rw [HE.out, HV.out], ?_⟩
        exact below7 W1 (Nat.le_succ _) _ _ _ _ _ _ _
      · have HE : Hid (delE x0 x1 x2 x3 x4 x5 s.size = 0) := hide (by rw [delE, if_neg (by simp [hz]), if_neg h4, if_neg h3])
        have HV : Hid (delV x0 x1 x2 x3 x4 x5 s = .agg #[.int .i64 x0, .int .i64 x1, .int .i64 x2, .int .i64 (x3 + 1), .int .i64 (x4 + 1), .int .i64 x5, .string s]) := hide (by rw [delV, HE.out, if_neg (by decide)])
        have h3' : (x3 == 8) = false := by rw [beq_eq_false_iff_ne]; exact h3
        have k3 : 0 ≤ x3 ∧ x3 ≤ 8 := by omega
        have k4 : 0 ≤ x4 ∧ x4 ≤ 65536 := by omega
        obtain ⟨k3a, k3b⟩ := k3
        obtain ⟨k4a, k4b⟩ := k4
        have HM := hide hz
        clear hz hk h4 h3
        go_enter Try.func82, Try.ntmps82
        go_wp2_with fail
        refine (rmval_any _ _ _ _ _ _ _ _).mono ?_
        rintro e w1 ⟨he, hb⟩
        rw [HM.out] at he
        subst he
        have W1 := WB.trans (hb.mono WB.size)
        have X0 := X0.below hb X0.1
        have F1 := F1.below hb X1.1
        have X1 := X1.below hb X1.1
        have F0 := F0.below hb (by simp; omega)
        obtain ⟨p7, p0, p1, p2, p3, p4, p5, p6⟩ := X0
        obtain ⟨q7, q0, q1, q2, q3, q4, q5, q6⟩ := X1
        have f0 := F0 0
        have f1 := F0 1
        have f2 := F0 2
        have f3 := F0 3
        have f4 := F0 4
        have f5 := F0 5
        have f6 := F0 6
        have g0 := F1 0
        have g1 := F1 1
        have g2 := F1 2
        have g3 := F1 3
        have g4 := F1 4
        have g5 := F1 5
        have g6 := F1 6
        clear F0 F1 hb WB
        go_wp2_with fail
        refine bodyPost_ret (v := .tuple #[.agg #[.int .i64 x0, .int .i64 x1, .int .i64 x2, .int .i64 (x3 + 1), .int .i64 (x4 + 1), .int .i64 x5, .string s], .int .i64 0]) (by simp [results, Try.results82, go_sem, q0, q1, q2, q3, q4, q5, q6]) rfl ⟨by rw [HE.out, HV.out], ?_⟩
        exact below7 ((W1.setCell (p := ⟨w.heap.size, 3, none⟩) (Nat.le_refl _) _).setCell (p := ⟨w.heap.size, 4, none⟩) (Nat.le_refl _) _) (Nat.le_succ _) _ _ _ _ _ _ _
  · have HE : Hid (delE x0 x1 x2 x3 x4 x5 s.size = mvE x0 x1 x2 x3 x4 x5 s.size) := hide (by rw [delE, if_pos hz])
    have HV : Hid (delV x0 x1 x2 x3 x4 x5 s = mZ) := hide (by rw [delV, HE.out, if_pos hz])
    rw [HE.out, HV.out]
    clear HE HV
    generalize hx : mvE x0 x1 x2 x3 x4 x5 s.size = z at *
    have hz' : (z != 0) = true := by rw [bne_iff_ne]; exact hz
    have HM := hide hx
    clear hz hx
    go_enter Try.func82, Try.ntmps82
    go_wp2_with fail
    refine (rmval_any _ _ _ _ _ _ _ _).mono ?_
    rintro e w1 ⟨he, hb⟩
    rw [HM.out] at he
    subst he
    have W1 := WB.trans (hb.mono WB.size)
    have X0 := X0.below hb X0.1
    have F1 := F1.below hb X1.1
    have X1 := X1.below hb X1.1
    have F0 := F0.below hb (by simp; omega)
    obtain ⟨p7, p0, p1, p2, p3, p4, p5, p6⟩ := X0
    obtain ⟨q7, q0, q1, q2, q3, q4, q5, q6⟩ := X1
    have f0 := F0 0
    have f1 := F0 1
    have f2 := F0 2
    have f3 := F0 3
    have f4 := F0 4
    have f5 := F0 5
    have f6 := F0 6
    have g0 := F1 0
    have g1 := F1 1
    have g2 := F1 2
    have g3 := F1 3
    have g4 := F1 4
    have g5 := F1 5
    have g6 := F1 6
    clear F0 F1 hb WB
    go_wp2_with fail
    refine bodyPost_ret (v := .tuple #[mZ, .int .i64 z]) (by simp [results, Try.results82, go_sem, q0, q1, q2, q3, q4, q5, q6]) rfl ⟨rfl, ?_⟩
    exact below7 W1 (Nat.le_succ _) _ _ _ _ _ _ _
end Go.Proofs.Ytaoiekcoiooghaa
