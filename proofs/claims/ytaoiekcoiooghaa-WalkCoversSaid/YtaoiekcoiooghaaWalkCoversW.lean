/- The walk of 'WalkCovers': it returns true. No condition. -/
import Derived.Test.YtaoiekcoiooghaaWalkRawW
import Derived.Test.YtaoiekcoiooghaaHn5
namespace Go.Proofs.Ytaoiekcoiooghaa
open Go.RowKit
/-- The smaller of a number and the last route. -/
def mnR (y : Int) : Int := if y < 65535 then y else 65535
theorem mnR_cases (y : Int) : (mnR y = y ∧ y < 65535) ∨ (mnR y = 65535 ∧ 65535 ≤ y) := by unfold mnR; split <;> omega
/-- How far the walk has come. -/
def CovR (st c s nx : Int) : Prop := 0 ≤ c ∧ c ≤ 131071 ∧ 0 ≤ s ∧ s * 1001 ≤ c + 1001 * ((st + c) / 65536) ∧ nx = (st + c) % 65536
/-- What is kept over the reading of a number. -/
def KC (w : World) (bs B : Nat) (W : World) : Prop := Src W bs ∧ Free W B ∧ Below w.heap.size w W ∧ w.heap.size ≤ bs ∧ bs < B ∧ B < W.heap.size
theorem keepC {w W W' : World} {bs B : Nat} {x y : Int} (h : W.cell? ⟨B, 0, none⟩ = some (.int .i64 x) ∧ W.cell? ⟨B, 1, none⟩ = some (.int .i64 y) ∧ KC w bs B W) (hs : Src W' bs) (ho : Oth W.heap.size bs W W') :
    W'.cell? ⟨B, 0, none⟩ = some (.int .i64 x) ∧ W'.cell? ⟨B, 1, none⟩ = some (.int .i64 y) ∧ KC w bs B W' := by
  obtain ⟨h0, h1, k1, k2, k3, k4, k5, k6⟩ := h
  exact ⟨(ho.cell (p := ⟨B, 0, none⟩) k6 (by simp; omega)).trans h0, (ho.cell (p := ⟨B, 1, none⟩) k6 (by simp; omega)).trans h1, hs, fun j => (ho.frozen (p := ⟨B, j, none⟩) k6 (by simp; omega)).trans (k2 j), k3.trans ((ho.mono k3.size).below (Nat.le_refl _) k4), k4, k5, Nat.lt_of_lt_of_le k6 ho.size⟩
theorem cov_step {st c s nx y : Int} (hst : 0 ≤ st ∧ st ≤ 65535) (h : CovR st c s nx) (hc : c < 65536) (hy : 0 ≤ y ∧ y ≤ 29999) :
    nx ≤ mnR (nx + 1000 + y) ∧ mnR (nx + 1000 + y) ≤ 65535 ∧ s ≤ 70 ∧ CovR st (c + (mnR (nx + 1000 + y) - nx + 1)) (s + 1) ((mnR (nx + 1000 + y) + 1) % 65536) ∧ (mnR (nx + 1000 + y) + 1) % 65536 = (st + (c + (mnR (nx + 1000 + y) - nx + 1))) % 65536 := by
  obtain ⟨h1, h2, h3, h4, h5⟩ := h
  have := mnR_cases (nx + 1000 + y)
  generalize mnR (nx + 1000 + y) = z at *
  unfold CovR
  omega
theorem srcC {w W : World} {bs B : Nat} {x y : Int} (h : W.cell? ⟨B, 0, none⟩ = some (.int .i64 x) ∧ W.cell? ⟨B, 1, none⟩ = some (.int .i64 y) ∧ KC w bs B W) : Src W bs := h.2.2.1
set_option maxHeartbeats 8000000 in
set_option maxRecDepth 100000 in
theorem walkCovers_core (A0 : Option Addr) (n0 c0 : Nat) (l0 : List Int) (a1 : Int) (w : World) (w0 : Reads w w.heap.size A0 n0 (ivs l0)) (k0 : n0 ≤ c0) (m0 : c0 ≤ maxLen) (b0 : ∀ x ∈ l0, -9223372036854775808 ≤ x ∧ x ≤ 9223372036854775807)
    (st : Int) (hb : bits BinOp.and IntKind.i64 a1 65535 = st) (hst : 0 ≤ st ∧ st ≤ 65535) :
    Calls Try.prog 5 #[.slice A0 n0 c0, .int .i64 a1] w fun e w' => e = .returned (.bool true) ∧ Below w.heap.size w w' := by
  have BB := hide b0
  have HST := hide hst
  have B1 : Hid (begN st = st) := hide (by rw [begN, if_pos (show BegOk st from hst)])
  have B2 : Hid (begE st = 0) := hide (by rw [begE, if_pos (show BegOk st from hst)])
  have hif : ∀ y : Int, (if y < 65535 then y else 65535) = mnR y := fun _ => rfl
  have HIF := hide hif
  clear b0 hst hif
  go_enter Try.func5, Try.ntmps5
  go_wp2_with fail
  refine (bnew_any _ _ _ _ _ w0 k0 m0 BB.out).mono ?_
  rintro e w1 ⟨rfl, S, W⟩
  clear w0 k0 m0 BB
  go_wp2_with fail
  refine (wbeg_any _ _).mono ?_
  rintro e w2 ⟨he, hb2⟩
  rw [B1.out, B2.out] at he
  subst he
  replace W := W.trans (hb2.mono W.size)
  replace S := S.below hb2 S.1
  have hs7 := S.1
  have F7 := Free.new w2 #[.int .i64 st, .int .i64 0] 23
  have X7 := Box2.new w2 st 0 23
  replace W := W.alloc W.size (.cells #[.int .i64 st, .int .i64 0] 23)
  replace S := S.alloc (.cells #[.int .i64 st, .int .i64 0] 23)
  clear hb2 B1 B2
  go_wp2_with fail
  generalize w2.heap.size = B7 at *
  generalize w2.alloc (.cells #[.int .i64 st, .int .i64 0] 23) = v2 at *
  go_loopw [9, 10] (fun cv sp wr => ∃ c s nx : Int, cv = .int .i64 c ∧ sp = .int .i64 s ∧ Hid (CovR st c s nx) ∧ Hid (Src wr w.heap.size) ∧ Hid (Box2 wr B7 nx c) ∧ Hid (Free wr B7) ∧ Hid (Below w.heap.size w wr)) (fun _ sp _ => 400 - (intOf sp).toNat)
  case atStart => exact ⟨0, 0, st, rfl, rfl, hide (by unfold CovR; have := HST.out; omega), hide S, hide X7, hide F7, hide W⟩
  case round =>
    obtain ⟨c, s, nx, rfl, rfl, HC, HS, HX, HF, HW⟩ := hrel
    have hbd : 0 ≤ c ∧ c ≤ 131071 ∧ 0 ≤ s ∧ 0 ≤ nx ∧ nx ≤ 65535 := by obtain ⟨h1, h2, h3, h4, h5⟩ := HC.out; omega
    obtain ⟨hc0, hc1, hs0, hn0, hn1⟩ := hbd
    obtain ⟨_, q0, q1⟩ := HX.out
    by_cases hc : 65536 ≤ c
    · have hd : decide (65536 ≤ c) = true := decide_eq_true hc
      go_wp2_with fail
      refine (wover_any _ _ _).mono ?_
      rintro e w3 ⟨rfl, hb3⟩
      rw [hd]
      have X3 := HX.out.below hb3 HX.out.1
      have W3 := HW.out.trans (hb3.mono HW.out.size)
      clear q0 q1 hb3
      obtain ⟨_, q0, q1⟩ := X3
      go_wp2_with fail
      refine (wover_any _ _ _).mono ?_
      rintro e w4 ⟨rfl, hb4⟩
      rw [hd]
      have W4 := W3.trans (hb4.mono W3.size)
      clear q0 q1 hb4
      go_wp2_with fail
      refine (wawake_any _).mono ?_
      rintro e w5 ⟨rfl, hb5⟩
      go_wp2_with fail
      go_ret
      exact ⟨rfl, W4.trans (hb5.mono W4.size)⟩
    · have hd : decide (65536 ≤ c) = false := decide_eq_false hc
      have hc' : c < 65536 := by omega
      go_wp2_with fail
      refine (wover_any _ _ _).mono ?_
      rintro e w3 ⟨rfl, hb3⟩
      rw [hd]
      have X3 := HX.out.below hb3 HX.out.1
      have W3 := HW.out.trans (hb3.mono HW.out.size)
      have F3 := HF.out.below hb3 HX.out.1
      have S3 := HS.out.below hb3 HS.out.1
      have hs70 : s < 400 := by have := (cov_step (y := 0) HST.out HC.out hc' (by omega)).2.2.1; omega
      clear q0 q1 hb3
      obtain ⟨_, q0, q1⟩ := id X3
      have HS3 := hide S3
      clear S3
      go_wp2_with fail
      refine (bn_any w.heap.size _ _ HS3.out (by omega) (by omega)).mono ?_
      rintro e w4 ⟨lo, hl1, hl2, rfl, S4, ho⟩
      have hB : B7 < w3.heap.size := X3.1
      have X4 := X3.oth ho X3.1 (by omega)
      have W4 := W3.trans ((ho.mono W3.size).below (Nat.le_refl _) (Nat.le_refl _))
      have F4 : Free w4 B7 := fun j => (ho.frozen (p := ⟨B7, j, none⟩) X3.1 (by simp; omega)).trans (F3 j)
      have K4 : KC w w.heap.size B7 w4.drew := ⟨S4, F4, W4.drew, Nat.le_refl _, hs7, X4.1⟩
      clear ho q0 q1 HS3 X3 W3 F3 S4
      obtain ⟨_, q0, q1⟩ := id X4
      go_wp2_with fail
      have s1 : IntKind.i64.wrap (nx + 1000) = nx + 1000 := IntWalk.i64_in _ (by omega)
      have hif := HIF.out
      go_region_held3 (fun w' => w'.cell? ⟨B7, 0, none⟩ = some (.int .i64 nx) ∧ w'.cell? ⟨B7, 1, none⟩ = some (.int .i64 c) ∧ KC w w.heap.size B7 w')
        (first | exact ⟨q0, q1, K4⟩ | exact keepC (by assumption) hs5 ho5 | assumption)
        (first
          | (go_at_call 32; refine (bn_any w.heap.size _ _ (srcC (by assumption)) (by decide) (by decide)).mono ?_; rintro e w' ⟨y, hy1, hy2, rfl, hs5, ho5⟩; have s2 : IntKind.i64.wrap (nx + 1000 + y) = nx + 1000 + y := IntWalk.i64_in _ (by omega)))
      rename_i hS
      obtain ⟨g0, g1, gS, gF, gW, _, _, gB⟩ := hS
      obtain ⟨z1, z2, _, z4, z5⟩ := cov_step HST.out HC.out hc' ⟨hy1, hy2⟩
      generalize mnR (nx + 1000 + y) = z at *
      have hao : AdvOk nx c lo z := ⟨hl1, by omega, z1, z2, hc0, by omega⟩
      have A1 : Hid (advN nx c lo z = (z + 1) % 65536) := hide (by rw [advN, if_pos hao])
      have A2 : Hid (advC nx c lo z = c + (z - nx + 1)) := hide (by rw [advC, if_pos hao]; omega)
      have A3 : Hid (advE nx c lo z = 0) := hide (by rw [advE, if_pos hao])
      have t1 : ((c + (z - nx + 1)) - c != z - nx + 1) = false := by rw [bne_eq_false_iff_eq]; omega
      have Z4 := hide z4
      have t3 : ((z + 1) % 65536 != (st + (c + (z - nx + 1))) % 65536) = false := by rw [bne_eq_false_iff_eq]; exact z5
      have GS := hide gS
      clear hao z4 z5 q0 q1 X4 W4 F4 K4 gS hif
      go_wp2_with fail
      refine (wadv_any _ _ _ _ _).mono ?_
      rintro e w5 ⟨he, hb5⟩
      rw [A1.out, A2.out, A3.out] at he
      subst he
      have X5 := Box2.below (⟨gB, g0, g1⟩ : Box2 _ B7 nx c) hb5 gB
      have F5 := gF.below hb5 gB
      have W5 := Below.trans gW (hb5.mono (Below.size gW))
      have S5 := GS.out.below hb5 GS.out.1
      have W6 := W5.alloc W5.size (.cells #[.int .i64 ((z + 1) % 65536), .int .i64 (c + (z - nx + 1))] 23)
      have S6 := S5.alloc (.cells #[.int .i64 ((z + 1) % 65536), .int .i64 (c + (z - nx + 1))] 23)
      have X6 := X5.alloc (.cells #[.int .i64 ((z + 1) % 65536), .int .i64 (c + (z - nx + 1))] 23)
      have F6 := F5.alloc X5.1 (.cells #[.int .i64 ((z + 1) % 65536), .int .i64 (c + (z - nx + 1))] 23)
      have Y6 := Box2.new w5 ((z + 1) % 65536) (c + (z - nx + 1)) 23
      obtain ⟨h7, q0, q1⟩ := X6
      obtain ⟨_, r0, r1⟩ := Y6
      have f0 := F6 0
      have f1 := F6 1
      have HS6 := hide S6
      clear S6 S5 W5 F5 X5 g0 g1 gF gW hb5 GS
      go_upto_region 11 with fail
      generalize w5.alloc (.cells #[.int .i64 ((z + 1) % 65536), .int .i64 (c + (z - nx + 1))] 23) = w6 at *
      generalize w5.heap.size = B13 at *
      have S7 := (HS6.out.set (p := ⟨B7, 0, none⟩) hs7 (.int .i64 ((z + 1) % 65536))).set (p := ⟨B7, 1, none⟩) hs7 (.int .i64 (c + (z - nx + 1)))
      have F7 := (F6.set ⟨B7, 0, none⟩ (.int .i64 ((z + 1) % 65536))).set ⟨B7, 1, none⟩ (.int .i64 (c + (z - nx + 1)))
      have W7 := (W6.setCell (p := ⟨B7, 0, none⟩) (Nat.le_of_lt hs7) (.int .i64 ((z + 1) % 65536))).setCell (p := ⟨B7, 1, none⟩) (Nat.le_of_lt hs7) (.int .i64 (c + (z - nx + 1)))
      have X7 : Box2 ((w6.setCell ⟨B7, 0, none⟩ (.int .i64 ((z + 1) % 65536))).setCell ⟨B7, 1, none⟩ (.int .i64 (c + (z - nx + 1)))) B7 ((z + 1) % 65536) (c + (z - nx + 1)) := ⟨by simpa using h7, by simp [go_sem, q0], by simp [go_sem, q1]⟩
      have HS7 := hide S7
      have HF7 := hide F7
      have HW7 := hide W7
      have HX7 := hide X7
      clear S7 F7 W7 X7 HS6 F6 W6
      obtain ⟨hst0, hst1⟩ := HST.out
      go_wp2_with fail
      go_roundw
      case rel => exact ⟨_, _, _, rfl, rfl, Z4, HS7, HX7, HF7, HW7⟩
      case measure => simp [intOf]; omega
theorem walkCovers_walk (A0 : Option Addr) (n0 c0 : Nat) (l0 : List Int) (a1 : Int) (w : World) (w0 : Reads w w.heap.size A0 n0 (ivs l0)) (k0 : n0 ≤ c0) (m0 : c0 ≤ maxLen) (b0 : ∀ x ∈ l0, -9223372036854775808 ≤ x ∧ x ≤ 9223372036854775807) (_w1 : -9223372036854775808 ≤ a1 ∧ a1 ≤ 9223372036854775807) :
    Calls Try.prog 5 #[.slice A0 n0 c0, .int .i64 a1] w fun e w' => e = .returned (.bool true) ∧ Below w.heap.size w w' :=
  walkCovers_core A0 n0 c0 l0 a1 w w0 k0 m0 b0 (a1 % 65536) (i64_and65535 a1) (by omega)
end Go.Proofs.Ytaoiekcoiooghaa
