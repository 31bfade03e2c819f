/- The walk of 'HandleUnique': it returns true. No condition. -/
import Derived.Test.YtaoiekcoiooghaaHn9
import Derived.Deep.RegionHeld3
import Derived.Deep.RegionWith
import Derived.BigRegion
import Derived.Deep.DeepCutAuto
namespace Go.Proofs.Ytaoiekcoiooghaa
open Go.RowKit
/-- Two variables, each with a handle within the limits. -/
def USt (w W : World) (B : Nat) (wz : World) : Prop := ∃ p0 p1 p2 p3 q0 q1 q2 q3 : Int, HOk p0 p1 p2 p3 ∧ HOk q0 q1 q2 q3 ∧ Box4 wz B (.int .i64 p0) (.int .i64 p1) (.int .i64 p2) (.int .i64 p3) ∧ Box4 wz (B + 1) (.int .i64 q0) (.int .i64 q1) (.int .i64 q2) (.int .i64 q3) ∧ Below w.heap.size w wz ∧ W = wz
theorem USt.mk_ {w W : World} {p0 p1 p2 p3 q0 q1 q2 q3 : Int} {x0 x1 x2 x3 y0 y1 y2 y3 : Value} (hp : Hid (HOk p0 p1 p2 p3)) (hq : Hid (HOk q0 q1 q2 q3)) (X0 : Box4 W w.heap.size x0 x1 x2 x3) (X1 : Box4 W (w.heap.size + 1) y0 y1 y2 y3) (WB : Below w.heap.size w W) :
    ∃ z, USt w ((((((((W.setCell ⟨w.heap.size, 0, none⟩ (.int .i64 p0)).setCell ⟨w.heap.size, 1, none⟩ (.int .i64 p1)).setCell ⟨w.heap.size, 2, none⟩ (.int .i64 p2)).setCell ⟨w.heap.size, 3, none⟩ (.int .i64 p3)).setCell ⟨w.heap.size + 1, 0, none⟩ (.int .i64 q0)).setCell ⟨w.heap.size + 1, 1, none⟩ (.int .i64 q1)).setCell ⟨w.heap.size + 1, 2, none⟩ (.int .i64 q2)).setCell ⟨w.heap.size + 1, 3, none⟩ (.int .i64 q3)) w.heap.size z := by
  have X1a := (((X1.far (p := ⟨w.heap.size, 0, none⟩) (by simp) (.int .i64 p0)).far (p := ⟨w.heap.size, 1, none⟩) (by simp) (.int .i64 p1)).far (p := ⟨w.heap.size, 2, none⟩) (by simp) (.int .i64 p2)).far (p := ⟨w.heap.size, 3, none⟩) (by simp) (.int .i64 p3)
  have X0a := X0.put (.int .i64 p0) (.int .i64 p1) (.int .i64 p2) (.int .i64 p3)
  have X0b := (((X0a.far (p := ⟨w.heap.size + 1, 0, none⟩) (by simp) (.int .i64 q0)).far (p := ⟨w.heap.size + 1, 1, none⟩) (by simp) (.int .i64 q1)).far (p := ⟨w.heap.size + 1, 2, none⟩) (by simp) (.int .i64 q2)).far (p := ⟨w.heap.size + 1, 3, none⟩) (by simp) (.int .i64 q3)
  have W4 := (((WB.setCell (p := ⟨w.heap.size, 0, none⟩) (Nat.le_refl _) (.int .i64 p0)).setCell (p := ⟨w.heap.size, 1, none⟩) (Nat.le_refl _) (.int .i64 p1)).setCell (p := ⟨w.heap.size, 2, none⟩) (Nat.le_refl _) (.int .i64 p2)).setCell (p := ⟨w.heap.size, 3, none⟩) (Nat.le_refl _) (.int .i64 p3)
  have W8 := (((W4.setCell (p := ⟨w.heap.size + 1, 0, none⟩) (Nat.le_succ _) (.int .i64 q0)).setCell (p := ⟨w.heap.size + 1, 1, none⟩) (Nat.le_succ _) (.int .i64 q1)).setCell (p := ⟨w.heap.size + 1, 2, none⟩) (Nat.le_succ _) (.int .i64 q2)).setCell (p := ⟨w.heap.size + 1, 3, none⟩) (Nat.le_succ _) (.int .i64 q3)
  exact ⟨_, _, _, _, _, _, _, _, _, hp.out, hq.out, X0b, X1a.put _ _ _ _, W8, rfl⟩
theorem tok_cases {p0 p1 p2 p3 q0 q1 q2 q3 : Int} (hp : Hid (HOk p0 p1 p2 p3)) (hq : Hid (HOk q0 q1 q2 q3)) : ∃ v, Hid (decide (tok p0.toNat p1.toNat p2.toNat p3.toNat = tok q0.toNat q1.toNat q2.toNat q3.toNat) = v) ∧
    ((v = false ∧ (p0 == q0) = false) ∨ (v = false ∧ (p0 == q0) = true ∧ (p1 == q1) = false) ∨ (v = false ∧ (p0 == q0) = true ∧ (p1 == q1) = true ∧ (p2 == q2) = false) ∨ (v = false ∧ (p0 == q0) = true ∧ (p1 == q1) = true ∧ (p2 == q2) = true ∧ (p3 == q3) = false) ∨
      (v = true ∧ (p0 == q0) = true ∧ (p1 == q1) = true ∧ (p2 == q2) = true ∧ (p3 == q3) = true)) := by
  refine ⟨_, rfl, ?_⟩
  rw [tok_inj hp.out hq.out]
  by_cases h0 : p0 = q0 <;> by_cases h1 : p1 = q1 <;> by_cases h2 : p2 = q2 <;> by_cases h3 : p3 = q3 <;> simp [h0, h1, h2, h3]
/-- What is kept while the results are compared. -/
def KU (w : World) (A A' : Option Addr) (l m : List UInt8) (W : World) : Prop := Below w.heap.size w W ∧ ∃ B B', Reads W B A 16 (bvs l) ∧ Reads W B' A' 16 (bvs m)
theorem keepU {w W W' : World} {A A' : Option Addr} {l m : List UInt8} {b : Nat} {x0 x1 x2 x3 y0 y1 y2 y3 : Value}
    (h : W.cell? ⟨b, 0, none⟩ = some x0 ∧ W.cell? ⟨b, 1, none⟩ = some x1 ∧ W.cell? ⟨b, 2, none⟩ = some x2 ∧ W.cell? ⟨b, 3, none⟩ = some x3 ∧ W.cell? ⟨b + 1, 0, none⟩ = some y0 ∧ W.cell? ⟨b + 1, 1, none⟩ = some y1 ∧ W.cell? ⟨b + 1, 2, none⟩ = some y2 ∧ W.cell? ⟨b + 1, 3, none⟩ = some y3 ∧ KU w A A' l m W) (hb : Below W.heap.size W W') :
    W'.cell? ⟨b, 0, none⟩ = some x0 ∧ W'.cell? ⟨b, 1, none⟩ = some x1 ∧ W'.cell? ⟨b, 2, none⟩ = some x2 ∧ W'.cell? ⟨b, 3, none⟩ = some x3 ∧ W'.cell? ⟨b + 1, 0, none⟩ = some y0 ∧ W'.cell? ⟨b + 1, 1, none⟩ = some y1 ∧ W'.cell? ⟨b + 1, 2, none⟩ = some y2 ∧ W'.cell? ⟨b + 1, 3, none⟩ = some y3 ∧ KU w A A' l m W' := by
  have k : ∀ {p : Addr} {x : Value}, W.cell? p = some x → W'.cell? p = some x := fun {p x} hx => (hb.cell (p := p) (World.block_lt_of_cell? W _ hx)).trans hx
  obtain ⟨h0, h1, h2, h3, h4, h5, h6, h7, hw, B, B', hr, hr'⟩ := h
  refine ⟨k h0, k h1, k h2, k h3, k h4, k h5, k h6, k h7, hw.trans (hb.mono hw.size), B, B', ?_, ?_⟩
  · exact ⟨hr.1, fun hn => by obtain ⟨b, o, e, hB, hc⟩ := hr.2 hn; exact ⟨b, o, e, hB, fun j u hu => k (hc j u hu)⟩⟩
  · exact ⟨hr'.1, fun hn => by obtain ⟨b, o, e, hB, hc⟩ := hr'.2 hn; exact ⟨b, o, e, hB, fun j u hu => k (hc j u hu)⟩⟩
theorem belowU {w W : World} {A A' : Option Addr} {l m : List UInt8} {b : Nat} {x0 x1 x2 x3 y0 y1 y2 y3 : Value}
    (h : W.cell? ⟨b, 0, none⟩ = some x0 ∧ W.cell? ⟨b, 1, none⟩ = some x1 ∧ W.cell? ⟨b, 2, none⟩ = some x2 ∧ W.cell? ⟨b, 3, none⟩ = some x3 ∧ W.cell? ⟨b + 1, 0, none⟩ = some y0 ∧ W.cell? ⟨b + 1, 1, none⟩ = some y1 ∧ W.cell? ⟨b + 1, 2, none⟩ = some y2 ∧ W.cell? ⟨b + 1, 3, none⟩ = some y3 ∧ KU w A A' l m W) :
    Below w.heap.size w W := h.2.2.2.2.2.2.2.2.1
theorem same_U {w W : World} {A A' : Option Addr} {l m : List UInt8} {b : Nat} {x0 x1 x2 x3 y0 y1 y2 y3 : Value} (c c' : Nat) (_n : Nat)
    (h : W.cell? ⟨b, 0, none⟩ = some x0 ∧ W.cell? ⟨b, 1, none⟩ = some x1 ∧ W.cell? ⟨b, 2, none⟩ = some x2 ∧ W.cell? ⟨b, 3, none⟩ = some x3 ∧ W.cell? ⟨b + 1, 0, none⟩ = some y0 ∧ W.cell? ⟨b + 1, 1, none⟩ = some y1 ∧ W.cell? ⟨b + 1, 2, none⟩ = some y2 ∧ W.cell? ⟨b + 1, 3, none⟩ = some y3 ∧ KU w A A' l m W) :
    Calls Try.prog 47 #[.slice A 16 c, .slice A' 16 c'] W fun e w' => e = .returned (.bool (decide (l = m))) ∧ W = w' := by
  obtain ⟨h0, h1, h2, h3, h4, h5, h6, h7, hw, B, B', hr, hr'⟩ := h
  exact same_any _ _ _ _ _ _ _ _ _ _ _ hr hr'
set_option maxHeartbeats 4000000 in
set_option maxRecDepth 20000 in
theorem handleUnique_walk (x00 x01 x02 x03 : Int) (x10 x11 x12 x13 : Int) (w : World) (_w00 : -9223372036854775808 ≤ x00 ∧ x00 ≤ 9223372036854775807) (_w01 : -9223372036854775808 ≤ x01 ∧ x01 ≤ 9223372036854775807) (_w02 : -9223372036854775808 ≤ x02 ∧ x02 ≤ 9223372036854775807) (_w03 : -9223372036854775808 ≤ x03 ∧ x03 ≤ 9223372036854775807) (_w10 : -9223372036854775808 ≤ x10 ∧ x10 ≤ 9223372036854775807) (_w11 : -9223372036854775808 ≤ x11 ∧ x11 ≤ 9223372036854775807) (_w12 : -9223372036854775808 ≤ x12 ∧ x12 ≤ 9223372036854775807) (_w13 : -9223372036854775808 ≤ x13 ∧ x13 ≤ 9223372036854775807) :
    Calls Try.prog 10 #[.agg #[.int .i64 x00, .int .i64 x01, .int .i64 x02, .int .i64 x03], .agg #[.int .i64 x10, .int .i64 x11, .int .i64 x12, .int .i64 x13]] w fun e w' => e = .returned (.bool true) ∧ Below w.heap.size w w' := by
  clear _w00 _w01 _w02 _w03 _w10 _w11 _w12 _w13
  go_enter Try.func10, Try.ntmps10
  go_wp2_with fail
  have WB : Below w.heap.size w ((w.alloc (.cells #[.int .i64 x00, .int .i64 x01, .int .i64 x02, .int .i64 x03] 58)).alloc (.cells #[.int .i64 x10, .int .i64 x11, .int .i64 x12, .int .i64 x13] 58)) := ((Below.refl _ _).alloc (Nat.le_refl _) _).alloc (by simp) _
  have X0 := (Box4.new w (.int .i64 x00) (.int .i64 x01) (.int .i64 x02) (.int .i64 x03) 58).alloc (.cells #[.int .i64 x10, .int .i64 x11, .int .i64 x12, .int .i64 x13] 58)
  have X1 := Box4.new (w.alloc (.cells #[.int .i64 x00, .int .i64 x01, .int .i64 x02, .int .i64 x03] 58)) (.int .i64 x10) (.int .i64 x11) (.int .i64 x12) (.int .i64 x13) 58
  have F0 := (Free.new w #[.int .i64 x00, .int .i64 x01, .int .i64 x02, .int .i64 x03] 58).alloc (by simp) (.cells #[.int .i64 x10, .int .i64 x11, .int .i64 x12, .int .i64 x13] 58)
  have F1 := Free.new (w.alloc (.cells #[.int .i64 x00, .int .i64 x01, .int .i64 x02, .int .i64 x03] 58)) #[.int .i64 x10, .int .i64 x11, .int .i64 x12, .int .i64 x13] 58
  rw [World.size_alloc] at X1 F1
  generalize (w.alloc (.cells #[.int .i64 x00, .int .i64 x01, .int .i64 x02, .int .i64 x03] 58)).alloc (.cells #[.int .i64 x10, .int .i64 x11, .int .i64 x12, .int .i64 x13] 58) = wx at *
  have X0' := X0
  have X1' := X1
  obtain ⟨h0, a0, a1, a2, a3⟩ := X0'
  obtain ⟨h1, b0, b1, b2, b3⟩ := X1'
  have f0 := F0 0
  have f1 := F0 1
  have f2 := F0 2
  have f3 := F0 3
  have g0 := F1 0
  have g1 := F1 1
  have g2 := F1 2
  have g3 := F1 3
  go_upto_region 1 with fail
  go_cut [9] (fun _ wy => ∃ z, USt w wy w.heap.size z)
  case first =>
    have X0 : Box4 wx.drew w.heap.size (.int .i64 x00) (.int .i64 x01) (.int .i64 x02) (.int .i64 x03) := X0
    have X1 : Box4 wx.drew (w.heap.size + 1) (.int .i64 x10) (.int .i64 x11) (.int .i64 x12) (.int .i64 x13) := X1
    have F0 : Free wx.drew w.heap.size := F0
    have F1 : Free wx.drew (w.heap.size + 1) := F1
    have WB : Below w.heap.size w wx.drew := WB.drew
    clear f0 f1 f2 f3 g0 g1 g2 g3
    go_region_with (go_at_call 48; refine (hsome_any _ _ _ _ _).mono ?_; rintro e w' ⟨p0, p1, p2, p3, hk, rfl, hb⟩; have hk' := hide hk; clear hk; have F0 := F0.below hb X0.1; have F1 := F1.below hb X1.1; have X0 := X0.below hb X0.1; have X1 := X1.below hb X1.1; have WB := WB.trans (hb.mono WB.size); have f0 := F0 0; have f1 := F0 1; have f2 := F0 2; have f3 := F0 3; have g0 := F1 0; have g1 := F1 1; have g2 := F1 2; have g3 := F1 3; have X0' := X0; have X1' := X1; obtain ⟨_, a0, a1, a2, a3⟩ := X0'; obtain ⟨_, b0, b1, b2, b3⟩ := X1')
    all_goals (go_wp2_with fail; go_meet; exact USt.mk_ (by assumption) (by assumption) (by assumption) (by assumption) WB)
  obtain ⟨z, p0, p1, p2, p3, q0, q1, q2, q3, hp, hq, Y0, Y1, WZ, hz⟩ := hcut
  subst hz
  clear X0 X1 F0 F1 f0 f1 f2 f3 g0 g1 g2 g3 a0 a1 a2 a3 b0 b1 b2 b3 WB
  have Y0' := Y0
  obtain ⟨_, a0, a1, a2, a3⟩ := Y0'
  have HP := hide hp
  have HQ := hide hq
  clear hp hq
  have E1 : Hid (encE p0 p1 p2 p3 = 0) := hide (by rw [encE, if_pos HP.out])
  have E2 : Hid (encL p0 p1 p2 p3 = tok p0.toNat p1.toNat p2.toNat p3.toNat) := hide (by rw [encL, if_pos HP.out])
  have D1 : Hid (encE q0 q1 q2 q3 = 0) := hide (by rw [encE, if_pos HQ.out])
  have D2 : Hid (encL q0 q1 q2 q3 = tok q0.toNat q1.toNat q2.toNat q3.toNat) := hide (by rw [encL, if_pos HQ.out])
  go_wp2_with fail
  refine (henc_any _ _ _ _ _).mono ?_
  rintro e wb ⟨vb, he, hownb, hbb⟩
  have W2 := WZ.trans (hbb.mono WZ.size)
  have Z0 := Y0.below hbb Y0.1
  have Z1 := Y1.below hbb Y1.1
  obtain ⟨Ab, cb, hvb, hcb, hmb, hqb⟩ := hownb.shape
  rw [E2.out, tok_length] at hqb hvb
  rw [E1.out] at he
  subst he hvb
  clear hownb hcb hmb Y0 Y1 a0 a1 a2 a3
  have Z1' := Z1
  obtain ⟨_, b0, b1, b2, b3⟩ := Z1'
  go_wp2_with fail
  refine (henc_any _ _ _ _ _).mono ?_
  rintro e wd ⟨vd, he, hownd, hbd⟩
  have W3 := W2.trans (hbd.mono W2.size)
  have Y0 := Z0.below hbd Z0.1
  have Y1 := Z1.below hbd Z1.1
  have hqb := hqb.below hbd
  obtain ⟨Ad, cd, hvd, hcd, hmd, hqd⟩ := hownd.shape
  rw [D2.out, tok_length] at hqd hvd
  rw [D1.out] at he
  subst he hvd
  clear hownd hcd hmd Z0 Z1 b0 b1 b2 b3
  obtain ⟨_, a0, a1, a2, a3⟩ := Y0
  obtain ⟨_, b0, b1, b2, b3⟩ := Y1
  have K0 : KU w Ab Ad (tok p0.toNat p1.toNat p2.toNat p3.toNat) (tok q0.toNat q1.toNat q2.toNat q3.toNat) wd.drew := ⟨W3.drew, _, _, hqb, hqd⟩
  clear W3 hqb hqd
  obtain ⟨v, TI, hc⟩ := tok_cases HP HQ
  go_wp2_with fail
  rcases hc with ⟨rfl, c0⟩ | ⟨rfl, c0, c1⟩ | ⟨rfl, c0, c1, c2⟩ | ⟨rfl, c0, c1, c2, c3⟩ | ⟨rfl, c0, c1, c2, c3⟩
  all_goals
    go_region_held3 (fun w' => w'.cell? ⟨w.heap.size, 0, none⟩ = some (.int .i64 p0) ∧ w'.cell? ⟨w.heap.size, 1, none⟩ = some (.int .i64 p1) ∧ w'.cell? ⟨w.heap.size, 2, none⟩ = some (.int .i64 p2) ∧ w'.cell? ⟨w.heap.size, 3, none⟩ = some (.int .i64 p3) ∧
        w'.cell? ⟨w.heap.size + 1, 0, none⟩ = some (.int .i64 q0) ∧ w'.cell? ⟨w.heap.size + 1, 1, none⟩ = some (.int .i64 q1) ∧ w'.cell? ⟨w.heap.size + 1, 2, none⟩ = some (.int .i64 q2) ∧ w'.cell? ⟨w.heap.size + 1, 3, none⟩ = some (.int .i64 q3) ∧ KU w Ab Ad (tok p0.toNat p1.toNat p2.toNat p3.toNat) (tok q0.toNat q1.toNat q2.toNat q3.toNat) w')
      (first | exact ⟨a0, a1, a2, a3, b0, b1, b2, b3, K0⟩ | exact keepU (by assumption) (by assumption) | assumption)
      (first
        | (go_at_call 47; refine (same_U (b := w.heap.size) _ _ 0 (by assumption)).mono ?_; rintro e w' ⟨he, rfl⟩; rw [TI.out] at he; subst he)
        | (go_at_call 50; refine (hawake_any _).mono ?_; rintro e w' ⟨rfl, hb⟩))
  all_goals go_wp2_with fail
  all_goals go_ret
  all_goals exact ⟨rfl, belowU (by assumption)⟩
end Go.Proofs.Ytaoiekcoiooghaa
