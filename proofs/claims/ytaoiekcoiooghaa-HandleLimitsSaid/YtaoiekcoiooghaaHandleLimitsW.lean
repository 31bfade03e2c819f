/- The walk of 'HandleLimits': it returns true. No condition. -/
import Derived.Test.YtaoiekcoiooghaaHn9
import Derived.Deep.QuietTactic
import Derived.BigQuiet
namespace Go.Proofs.Ytaoiekcoiooghaa
open Go.RowKit
/-- The cells of the six handles: the greatest numbers (or the least ones), and those beyond them. -/
def limL : List Int := [1073741824, 1, 0, 0, 1, 65536, 0, 0, 1, 1, 65535, 0, 1, 1, 0, 5, 1, 1, 0, 0, 1, 1, 0, 0]
def limM : List Int := [1073741825, 1, 0, 0, 1, 65537, 0, 0, 1, 1, 65536, 0, 1, 1, 0, 6, 0, 1, 0, 0, 1, 0, 0, 0]
/-- A block that reads as integers. -/
def RowI (L : List Int) (b : Nat) (W : World) : Prop := b < W.heap.size ∧ ∀ j x, L[j]? = some x → W.cell? ⟨b, j, none⟩ = some (.int .i64 x)
theorem RowI.below {L : List Int} {b B : Nat} {W W' : World} (h : RowI L b W) (hb : Below B W W') (hB : b < B) : RowI L b W' :=
  ⟨Nat.lt_of_lt_of_le h.1 hb.size, fun j x hx => (hb.cell (p := ⟨b, j, none⟩) hB).trans (h.2 j x hx)⟩
theorem lim_yes : ∀ k, k < 6 → ∃ x0 x1 x2 x3, HOk x0 x1 x2 x3 ∧ limL[k * 4]? = some x0 ∧ limL[k * 4 + 1]? = some x1 ∧ limL[k * 4 + 2]? = some x2 ∧ limL[k * 4 + 3]? = some x3 := by
  intro k hk
  rcases (by omega : k = 0 ∨ k = 1 ∨ k = 2 ∨ k = 3 ∨ k = 4 ∨ k = 5) with rfl | rfl | rfl | rfl | rfl | rfl <;> exact ⟨_, _, _, _, by decide, rfl, rfl, rfl, rfl⟩
theorem lim_no : ∀ k, k < 6 → ∃ x0 x1 x2 x3, ¬ HOk x0 x1 x2 x3 ∧ limM[k * 4]? = some x0 ∧ limM[k * 4 + 1]? = some x1 ∧ limM[k * 4 + 2]? = some x2 ∧ limM[k * 4 + 3]? = some x3 := by
  intro k hk
  rcases (by omega : k = 0 ∨ k = 1 ∨ k = 2 ∨ k = 3 ∨ k = 4 ∨ k = 5) with rfl | rfl | rfl | rfl | rfl | rfl <;> exact ⟨_, _, _, _, by decide, rfl, rfl, rfl, rfl⟩
theorem rowI_new (w : World) (L : List Int) (t : TypeId) : RowI L w.heap.size (w.alloc (.cells (L.map (Value.int .i64)).toArray t)) := by
  refine ⟨by simp, fun j x hx => ?_⟩
  have hj : j < L.length := by
    rcases Nat.lt_or_ge j L.length with h | h
    · exact h
    · rw [List.getElem?_eq_none h] at hx; cases hx
  rw [List.getElem?_eq_getElem hj] at hx
  simp only [Option.some.injEq] at hx
  subst hx
  simp [World.cell?_alloc_new, hj]
set_option maxHeartbeats 4000000 in
set_option maxRecDepth 20000 in
theorem handleLimits_walk (a0 : Bool) (w : World) :
    Calls Try.prog 22 #[.bool a0] w fun e w' => e = .returned (.bool true) ∧ Below w.heap.size w w' := by
  cases a0
  · go_enter Try.func22, Try.ntmps22
    go_wp2_with fail
    have RB := rowI_new w limL 58
    have WB : Below w.heap.size w (w.alloc (.cells (limL.map (Value.int .i64)).toArray 58)) := (Below.refl _ _).alloc (Nat.le_refl _) _
    change Code.wp _ _ _ _ (w.alloc (.cells (limL.map (Value.int .i64)).toArray 58))
    generalize w.alloc (.cells (limL.map (Value.int .i64)).toArray 58) = wx at *
    go_loopw [5] (fun i wr => ∃ k : Nat, k ≤ 6 ∧ i = .int .i64 k ∧ Below w.heap.size w wr ∧ RowI limL w.heap.size wr) (fun i _ => 6 - (intOf i).toNat)
    case atStart => exact ⟨0, Nat.zero_le _, rfl, WB, RB⟩
    case round =>
      obtain ⟨k, hk, rfl, hw, hrow⟩ := hrel
      by_cases hlt : k < 6
      · have hki : (k : Int) < 6 := by omega
        have hk0 : (0 : Int) ≤ (k : Int) := by omega
        obtain ⟨x0, x1, x2, x3, hok, l0, l1, l2, l3⟩ := lim_yes k hlt
        have c0 := hrow.2 _ _ l0
        have c1 := hrow.2 _ _ l1
        have c2 := hrow.2 _ _ l2
        have c3 := hrow.2 _ _ l3
        have HK := hide hok
        have HR := hide hrow
        have E1 : Hid (encE x0 x1 x2 x3 = 0) := hide (by rw [encE, if_pos HK.out])
        have E2 : Hid (encL x0 x1 x2 x3 = tok x0.toNat x1.toNat x2.toNat x3.toNat) := hide (by rw [encL, if_pos HK.out])
        have H0 := hide l0
        have H1 := hide l1
        have H2 := hide l2
        have H3 := hide l3
        clear l0 l1 l2 l3 hok hrow
        go_wp2_with fail
        refine (henc_any _ _ _ _ _).mono ?_
        rintro e wb ⟨vb, he, hownb, hbb⟩
        have W2 := hw.trans (hbb.mono hw.size)
        have R2 := HR.out.below hbb HR.out.1
        obtain ⟨Ab, cb, hvb, hcb, hmb, hqb⟩ := hownb.shape
        rw [E2.out, tok_length] at hqb hvb hcb
        rw [E1.out] at he
        subst he hvb
        have PT := par_tok HK.out
        clear hownb c0 c1 c2 c3 hbb
        go_wp2_with fail
        refine (parse_any _ _ _ _ _ _ hqb (Nat.le_refl _) hcb hmb).mono ?_
        rintro e wc ⟨he, hbc⟩
        rw [PT.1, PT.2] at he
        subst he
        have W3 := W2.trans (hbc.mono W2.size)
        have R3 := R2.below hbc R2.1
        have R4 := R3.below ((Below.refl wc.heap.size wc).alloc (Nat.le_refl _) (.cells #[.int .i64 x0, .int .i64 x1, .int .i64 x2, .int .i64 x3] 58)) R3.1
        have W4 := W3.alloc W3.size (.cells #[.int .i64 x0, .int .i64 x1, .int .i64 x2, .int .i64 x3] 58)
        have Y4 := Box4.new wc (.int .i64 x0) (.int .i64 x1) (.int .i64 x2) (.int .i64 x3) 58
        have c0 := R4.2 _ _ H0.out
        have c1 := R4.2 _ _ H1.out
        have c2 := R4.2 _ _ H2.out
        have c3 := R4.2 _ _ H3.out
        obtain ⟨_, y0, y1, y2, y3⟩ := Y4
        have HW := hide W4
        have HRR := hide R4
        clear W2 R2 W3 R3 W4 R4 hbc hw HR
        go_wp2_with fail
        go_quiet (fail)
        go_wp2_with fail
        go_roundw
        case rel => exact ⟨k + 1, by omega, by go_num, below_drewN' HW.out _, HRR.out⟩
        case measure => simp [intOf]; omega
      · obtain rfl : k = 6 := by omega
        go_wp2_with (first
          | (go_at_call 50; refine (hawake_any _).mono ?_; rintro e w' ⟨rfl, hb⟩))
        go_ret
        exact ⟨rfl, hw.trans (hb.mono hw.size)⟩
  · go_enter Try.func22, Try.ntmps22
    go_wp2_with fail
    have RB := rowI_new w limM 58
    have WB : Below w.heap.size w (w.alloc (.cells (limM.map (Value.int .i64)).toArray 58)) := (Below.refl _ _).alloc (Nat.le_refl _) _
    change Code.wp _ _ _ _ (w.alloc (.cells (limM.map (Value.int .i64)).toArray 58))
    generalize w.alloc (.cells (limM.map (Value.int .i64)).toArray 58) = wx at *
    go_loopw [5] (fun i wr => ∃ k : Nat, k ≤ 6 ∧ i = .int .i64 k ∧ Below w.heap.size w wr ∧ RowI limM w.heap.size wr) (fun i _ => 6 - (intOf i).toNat)
    case atStart => exact ⟨0, Nat.zero_le _, rfl, WB, RB⟩
    case round =>
      obtain ⟨k, hk, rfl, hw, hrow⟩ := hrel
      by_cases hlt : k < 6
      · have hki : (k : Int) < 6 := by omega
        have hk0 : (0 : Int) ≤ (k : Int) := by omega
        obtain ⟨x0, x1, x2, x3, hok, l0, l1, l2, l3⟩ := lim_no k hlt
        have c0 := hrow.2 _ _ l0
        have c1 := hrow.2 _ _ l1
        have c2 := hrow.2 _ _ l2
        have c3 := hrow.2 _ _ l3
        have HR := hide hrow
        have E1 : Hid (encE x0 x1 x2 x3 = 1) := hide (by rw [encE, if_neg hok])
        have E2 : Hid (encL x0 x1 x2 x3 = []) := hide (by rw [encL, if_neg hok])
        clear l0 l1 l2 l3 hok hrow
        go_wp2_with fail
        refine (henc_any _ _ _ _ _).mono ?_
        rintro e wb ⟨vb, he, hownb, hbb⟩
        have W2 := hw.trans (hbb.mono hw.size)
        have R2 := HR.out.below hbb HR.out.1
        obtain ⟨Ab, cb, hvb, hcb, hmb, hqb⟩ := hownb.shape
        rw [E2.out, List.length_nil] at hvb
        rw [E1.out] at he
        subst he hvb
        clear hownb c0 c1 c2 c3 hbb hqb hcb
        go_wp2_with fail
        go_roundw
        case rel => exact ⟨k + 1, by omega, by go_num, W2, R2⟩
        case measure => simp [intOf]; omega
      · obtain rfl : k = 6 := by omega
        go_wp2_with (first
          | (go_at_call 50; refine (hawake_any _).mono ?_; rintro e w' ⟨rfl, hb⟩))
        go_ret
        exact ⟨rfl, hw.trans (hb.mono hw.size)⟩
end Go.Proofs.Ytaoiekcoiooghaa
