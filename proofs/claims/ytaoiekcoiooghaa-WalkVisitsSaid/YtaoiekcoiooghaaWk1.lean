/- The contracts of the walk's Begin, Advance and Over, of the program and of the reference, and of law16's awake. No condition. -/
import Derived.Test.YtaoiekcoiooghaaBs1
import Derived.Test.YtaoiekcoiooghaaHn3
import Derived.Deep.RegionHeld3
namespace Go.Proofs.Ytaoiekcoiooghaa
open Go.RowKit
def BegOk (r : Int) : Prop := 0 ≤ r ∧ r ≤ 65535
instance (r : Int) : Decidable (BegOk r) := by unfold BegOk; infer_instance
def AdvOk (x y lo hi : Int) : Prop := 0 ≤ lo ∧ lo ≤ x ∧ x ≤ hi ∧ hi ≤ 65535 ∧ 0 ≤ y ∧ y ≤ 65535
instance (x y lo hi : Int) : Decidable (AdvOk x y lo hi) := by unfold AdvOk; infer_instance
def begN (r : Int) : Int := if BegOk r then r else 0
def begE (r : Int) : Int := if BegOk r then 0 else 1
def advN (x y lo hi : Int) : Int := if AdvOk x y lo hi then (hi + 1) % 65536 else 0
def advC (x y lo hi : Int) : Int := if AdvOk x y lo hi then y + hi - x + 1 else 0
def advE (x y lo hi : Int) : Int := if AdvOk x y lo hi then 0 else 1
theorem ret_agg2 {a b c a' b' c' : Int} (h1 : a = a') (h2 : b = b') (h3 : c = c') : Ending.returned (.tuple #[.agg #[.int .i64 a, .int .i64 b], .int .i64 c]) = .returned (.tuple #[.agg #[.int .i64 a', .int .i64 b'], .int .i64 c']) := by rw [h1, h2, h3]
set_option maxHeartbeats 1000000 in
theorem wbeg_any (r : Int) (w : World) : Calls Try.prog 28 #[.int .i64 r] w fun e w' => e = .returned (.tuple #[.agg #[.int .i64 (begN r), .int .i64 0], .int .i64 (begE r)]) ∧ Below w.heap.size w w' := by
  have WB : Below w.heap.size w (w.alloc (.cells #[.int .i64 0, .int .i64 0] 23)) := (Below.refl _ _).alloc (Nat.le_refl _) _
  by_cases h : BegOk r
  · have HN : Hid (begN r = r) := hide (by rw [begN, if_pos h])
    have HE : Hid (begE r = 0) := hide (by rw [begE, if_pos h])
    obtain ⟨h1, h2⟩ := h
    go_enter Try.func28, Try.ntmps28
    go_wp2_with fail
    refine bodyPost_ret (v := .tuple #[.agg #[.int .i64 r, .int .i64 0], .int .i64 0]) (by simp [results, Try.results28, go_sem]) rfl ⟨by rw [HN.out, HE.out], ?_⟩
    first | exact (WB.setCell (p := ⟨w.heap.size, 0, none⟩) (Nat.le_refl _) _).setCell (p := ⟨w.heap.size, 1, none⟩) (Nat.le_refl _) _ | exact (Below.refl _ _).alloc (Nat.le_refl _) _
  · have HN : Hid (begN r = 0) := hide (by rw [begN, if_neg h])
    have HE : Hid (begE r = 1) := hide (by rw [begE, if_neg h])
    have h' : r < 0 ∨ (0 ≤ r ∧ 65536 ≤ r) := by unfold BegOk at h; omega
    clear h
    rcases h' with h | ⟨h, h3⟩
    all_goals
      go_enter Try.func28, Try.ntmps28
      go_wp2_with fail
      refine bodyPost_ret (v := .tuple #[.agg #[.int .i64 0, .int .i64 0], .int .i64 1]) (by simp [results, Try.results28, go_sem]) rfl ⟨by rw [HN.out, HE.out], ?_⟩
      first | exact (WB.setCell (p := ⟨w.heap.size, 0, none⟩) (Nat.le_refl _) _).setCell (p := ⟨w.heap.size, 1, none⟩) (Nat.le_refl _) _ | exact (Below.refl _ _).alloc (Nat.le_refl _) _
set_option maxHeartbeats 1000000 in
theorem rwbeg_any (r : Int) (w : World) : Calls Try.prog 29 #[.int .i64 r] w fun e w' => e = .returned (.tuple #[.agg #[.int .i64 (begN r), .int .i64 0], .int .i64 (begE r)]) ∧ Below w.heap.size w w' := by
  have WB : Below w.heap.size w (w.alloc (.cells #[.int .i64 0, .int .i64 0] 23)) := (Below.refl _ _).alloc (Nat.le_refl _) _
  by_cases h : BegOk r
  · have HN : Hid (begN r = r) := hide (by rw [begN, if_pos h])
    have HE : Hid (begE r = 0) := hide (by rw [begE, if_pos h])
    obtain ⟨h1, h2⟩ := h
    go_enter Try.func29, Try.ntmps29
    go_wp2_with fail
    refine bodyPost_ret (v := .tuple #[.agg #[.int .i64 r, .int .i64 0], .int .i64 0]) (by simp [results, Try.results29, go_sem]) rfl ⟨by rw [HN.out, HE.out], ?_⟩
    first | exact (WB.setCell (p := ⟨w.heap.size, 0, none⟩) (Nat.le_refl _) _).setCell (p := ⟨w.heap.size, 1, none⟩) (Nat.le_refl _) _ | exact (Below.refl _ _).alloc (Nat.le_refl _) _
  · have HN : Hid (begN r = 0) := hide (by rw [begN, if_neg h])
    have HE : Hid (begE r = 1) := hide (by rw [begE, if_neg h])
    have h' : r < 0 ∨ (0 ≤ r ∧ 65536 ≤ r) := by unfold BegOk at h; omega
    clear h
    rcases h' with h | ⟨h, h3⟩
    all_goals
      go_enter Try.func29, Try.ntmps29
      go_wp2_with fail
      refine bodyPost_ret (v := .tuple #[.agg #[.int .i64 0, .int .i64 0], .int .i64 1]) (by simp [results, Try.results29, go_sem]) rfl ⟨by rw [HN.out, HE.out], ?_⟩
      first | exact (WB.setCell (p := ⟨w.heap.size, 0, none⟩) (Nat.le_refl _) _).setCell (p := ⟨w.heap.size, 1, none⟩) (Nat.le_refl _) _ | exact (Below.refl _ _).alloc (Nat.le_refl _) _
set_option maxHeartbeats 2000000 in
theorem wadv_any (x y lo hi : Int) (w : World) : Calls Try.prog 30 #[.agg #[.int .i64 x, .int .i64 y], .int .i64 lo, .int .i64 hi] w fun e w' => e = .returned (.tuple #[.agg #[.int .i64 (advN x y lo hi), .int .i64 (advC x y lo hi)], .int .i64 (advE x y lo hi)]) ∧ Below w.heap.size w w' := by
  have WB : Below w.heap.size w ((w.alloc (.cells #[.int .i64 x, .int .i64 y] 23)).alloc (.cells #[.int .i64 0, .int .i64 0] 23)) := ((Below.refl _ _).alloc (Nat.le_refl _) _).alloc (by simp) _
  by_cases h : AdvOk x y lo hi
  · have HN : Hid (advN x y lo hi = (hi + 1) % 65536) := hide (by rw [advN, if_pos h])
    have HC : Hid (advC x y lo hi = y + hi - x + 1) := hide (by rw [advC, if_pos h])
    have HE : Hid (advE x y lo hi = 0) := hide (by rw [advE, if_pos h])
    obtain ⟨h1, h2, h3, h4, h5, h6⟩ := h
    have h7 : 0 ≤ x := by omega
    have h8 : 0 ≤ hi := by omega
    go_enter Try.func30, Try.ntmps30
    go_wp2_with fail
    refine bodyPost_ret (v := .tuple #[.agg #[.int .i64 ((hi + 1) % 65536), .int .i64 (y + hi - x + 1)], .int .i64 0]) (by simp [results, Try.results30, go_sem]) rfl ⟨by rw [HN.out, HC.out, HE.out], ?_⟩
    first | exact (WB.setCell (p := ⟨w.heap.size + 1, 0, none⟩) (Nat.le_succ _) _).setCell (p := ⟨w.heap.size + 1, 1, none⟩) (Nat.le_succ _) _ | exact ((Below.refl _ _).alloc (Nat.le_refl _) _).alloc (by simp) _
  · have HN : Hid (advN x y lo hi = 0) := hide (by rw [advN, if_neg h])
    have HC : Hid (advC x y lo hi = 0) := hide (by rw [advC, if_neg h])
    have HE : Hid (advE x y lo hi = 1) := hide (by rw [advE, if_neg h])
    have h' : lo < 0 ∨ (0 ≤ lo ∧ x < lo) ∨ (0 ≤ lo ∧ lo ≤ x ∧ hi < x) ∨ (0 ≤ lo ∧ lo ≤ x ∧ x ≤ hi ∧ 65536 ≤ hi) ∨ (0 ≤ lo ∧ lo ≤ x ∧ x ≤ hi ∧ hi < 65536 ∧ y < 0) ∨ (0 ≤ lo ∧ lo ≤ x ∧ x ≤ hi ∧ hi < 65536 ∧ 0 ≤ y ∧ 65536 ≤ y) := by unfold AdvOk at h; omega
    clear h
    rcases h' with h1 | ⟨h1, h2⟩ | ⟨h1, h2, h3⟩ | ⟨h1, h2, h3, h4⟩ | ⟨h1, h2, h3, h4, h5⟩ | ⟨h1, h2, h3, h4, h5, h6⟩
    all_goals
      go_enter Try.func30, Try.ntmps30
      go_wp2_with fail
      refine bodyPost_ret (v := .tuple #[.agg #[.int .i64 0, .int .i64 0], .int .i64 1]) (by simp [results, Try.results30, go_sem]) rfl ⟨by rw [HN.out, HC.out, HE.out], ?_⟩
      first | exact (WB.setCell (p := ⟨w.heap.size + 1, 0, none⟩) (Nat.le_succ _) _).setCell (p := ⟨w.heap.size + 1, 1, none⟩) (Nat.le_succ _) _ | exact ((Below.refl _ _).alloc (Nat.le_refl _) _).alloc (by simp) _
set_option maxHeartbeats 2000000 in
theorem rwadv_any (x y lo hi : Int) (w : World) : Calls Try.prog 31 #[.agg #[.int .i64 x, .int .i64 y], .int .i64 lo, .int .i64 hi] w fun e w' => e = .returned (.tuple #[.agg #[.int .i64 (advN x y lo hi), .int .i64 (advC x y lo hi)], .int .i64 (advE x y lo hi)]) ∧ Below w.heap.size w w' := by
  have WB : Below w.heap.size w ((w.alloc (.cells #[.int .i64 x, .int .i64 y] 23)).alloc (.cells #[.int .i64 0, .int .i64 0] 23)) := ((Below.refl _ _).alloc (Nat.le_refl _) _).alloc (by simp) _
  by_cases h : AdvOk x y lo hi
  · have HN : Hid (advN x y lo hi = (hi + 1) % 65536) := hide (by rw [advN, if_pos h])
    have HC : Hid (advC x y lo hi = y + hi - x + 1) := hide (by rw [advC, if_pos h])
    have HE : Hid (advE x y lo hi = 0) := hide (by rw [advE, if_pos h])
    obtain ⟨h1, h2, h3, h4, h5, h6⟩ := h
    have h7 : 0 ≤ x := by omega
    have h8 : 0 ≤ hi := by omega
    go_enter Try.func31, Try.ntmps31
    go_wp2_with fail
    refine bodyPost_ret (v := .tuple #[.agg #[.int .i64 ((hi + 1) % 65536), .int .i64 (y + hi - x + 1)], .int .i64 0]) (by simp [results, Try.results31, go_sem]) rfl ⟨by rw [HN.out, HC.out, HE.out], ?_⟩
    first | exact (WB.setCell (p := ⟨w.heap.size + 1, 0, none⟩) (Nat.le_succ _) _).setCell (p := ⟨w.heap.size + 1, 1, none⟩) (Nat.le_succ _) _ | exact ((Below.refl _ _).alloc (Nat.le_refl _) _).alloc (by simp) _
  · have HN : Hid (advN x y lo hi = 0) := hide (by rw [advN, if_neg h])
    have HC : Hid (advC x y lo hi = 0) := hide (by rw [advC, if_neg h])
    have HE : Hid (advE x y lo hi = 1) := hide (by rw [advE, if_neg h])
    have h' : lo < 0 ∨ (0 ≤ lo ∧ x < lo) ∨ (0 ≤ lo ∧ lo ≤ x ∧ hi < x) ∨ (0 ≤ lo ∧ lo ≤ x ∧ x ≤ hi ∧ 65536 ≤ hi) ∨ (0 ≤ lo ∧ lo ≤ x ∧ x ≤ hi ∧ hi < 65536 ∧ y < 0) ∨ (0 ≤ lo ∧ lo ≤ x ∧ x ≤ hi ∧ hi < 65536 ∧ 0 ≤ y ∧ 65536 ≤ y) := by unfold AdvOk at h; omega
    clear h
    rcases h' with h1 | ⟨h1, h2⟩ | ⟨h1, h2, h3⟩ | ⟨h1, h2, h3, h4⟩ | ⟨h1, h2, h3, h4, h5⟩ | ⟨h1, h2, h3, h4, h5, h6⟩
    all_goals
      go_enter Try.func31, Try.ntmps31
      go_wp2_with fail
      refine bodyPost_ret (v := .tuple #[.agg #[.int .i64 0, .int .i64 0], .int .i64 1]) (by simp [results, Try.results31, go_sem]) rfl ⟨by rw [HN.out, HC.out, HE.out], ?_⟩
      first | exact (WB.setCell (p := ⟨w.heap.size + 1, 0, none⟩) (Nat.le_succ _) _).setCell (p := ⟨w.heap.size + 1, 1, none⟩) (Nat.le_succ _) _ | exact ((Below.refl _ _).alloc (Nat.le_refl _) _).alloc (by simp) _
theorem wover_any (x y : Int) (w : World) : Calls Try.prog 35 #[.agg #[.int .i64 x, .int .i64 y]] w fun e w' => e = .returned (.bool (decide (65536 ≤ y))) ∧ Below w.heap.size w w' := by
  go_enter Try.func35, Try.ntmps35
  go_wp2_with fail
  go_ret
  exact ⟨by simp, (Below.refl _ _).alloc (Nat.le_refl _) _⟩
theorem rwover_any (x y : Int) (w : World) : Calls Try.prog 36 #[.agg #[.int .i64 x, .int .i64 y]] w fun e w' => e = .returned (.bool (decide (65536 ≤ y))) ∧ Below w.heap.size w w' := by
  go_enter Try.func36, Try.ntmps36
  go_wp2_with fail
  go_ret
  exact ⟨by simp, (Below.refl _ _).alloc (Nat.le_refl _) _⟩
set_option maxHeartbeats 2000000 in
theorem wawake_any (w : World) : Calls Try.prog 37 #[] w fun e w' => e = .returned (.bool true) ∧ Below w.heap.size w w' := by
  have B1 : Hid (begN 40000 = 40000) := hide (by decide)
  have B2 : Hid (begE 40000 = 0) := hide (by decide)
  have A1 : Hid (advN 40000 0 32768 65535 = 0) := hide (by decide)
  have A2 : Hid (advC 40000 0 32768 65535 = 25536) := hide (by decide)
  have A3 : Hid (advE 40000 0 32768 65535 = 0) := hide (by decide)
  go_enter Try.func37, Try.ntmps37
  go_wp2_with fail
  refine (wbeg_any _ _).mono ?_
  rintro e w1 ⟨he, hb1⟩
  rw [B1.out, B2.out] at he
  subst he
  go_wp2_with fail
  have W1 := hb1.alloc hb1.size (.cells #[.int .i64 40000, .int .i64 0] 23)
  have hb0 := hb1.size
  refine (wadv_any _ _ _ _ _).mono ?_
  rintro e w2 ⟨he, hb2⟩
  rw [A1.out, A2.out, A3.out] at he
  subst he
  have W2 := W1.trans (hb2.mono W1.size)
  have F0 := (Free.new w1 #[.int .i64 40000, .int .i64 0] 23).below hb2 (by simp)
  have f0 := F0 0
  have f1 := F0 1
  have c0 := (hb2.cell (p := ⟨w1.heap.size, 0, none⟩) (by simp)).trans (show _ = some (.int .i64 40000) by simp [World.cell?_alloc_new])
  have c1 := (hb2.cell (p := ⟨w1.heap.size, 1, none⟩) (by simp)).trans (show _ = some (.int .i64 0) by simp [World.cell?_alloc_new])
  clear hb1 hb2 W1 F0
  go_wp2_with (first
    | (go_at_call 35; refine (wover_any _ _ _).mono ?_; rintro e w' ⟨rfl, hb⟩))
  go_ret
  exact ⟨rfl, ((W2.setCell (p := ⟨w1.heap.size, 0, none⟩) hb0 _).setCell (p := ⟨w1.heap.size, 1, none⟩) hb0 _).trans (hb.mono (by simpa using W2.size))⟩
end Go.Proofs.Ytaoiekcoiooghaa
