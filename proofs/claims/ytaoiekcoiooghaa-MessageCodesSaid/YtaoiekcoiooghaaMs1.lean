/- Words for the messages, and the contracts of the messages' Validate, New and tests, of the program and of the reference. No condition. -/
import Derived.Test.YtaoiekcoiooghaaTot
import Derived.Test.YtaoiekcoiooghaaDg2
import Derived.Test.YtaoiekcoiooghaaMsp
import Derived.Deep.RegionHeld3
namespace Go.Proofs.Ytaoiekcoiooghaa
open Go.RowKit

/-- Is a number within bounds? -/
def inB (n lo hi : Int) : Bool := decide (lo ≤ n) && decide (n ≤ hi)
theorem inB_true {n lo hi : Int} (h1 : lo ≤ n) (h2 : n ≤ hi) : inB n lo hi = true := by simp [inB, h1, h2]
theorem inB_lo {n lo hi : Int} (h1 : ¬ lo ≤ n) : inB n lo hi = false := by simp [inB, h1]
theorem inB_hi {n lo hi : Int} (h2 : ¬ n ≤ hi) : inB n lo hi = false := by simp [inB, h2]
theorem inB_iff {n lo hi : Int} : inB n lo hi = true ↔ lo ≤ n ∧ n ≤ hi := by simp [inB]
theorem min_any (n lo hi : Int) (w : World) : Calls Try.prog 99 #[.int .i64 n, .int .i64 lo, .int .i64 hi] w fun e w' => e = .returned (.bool (inB n lo hi)) ∧ w = w' := by
  by_cases h1 : lo ≤ n
  · by_cases h2 : n ≤ hi
    · have H := hide (inB_true h1 h2)
      go_enter Try.func99, Try.ntmps99
      go_wp2
      go_ret
      exact ⟨by rw [H.out]; simp, rfl⟩
    · have H := hide (inB_hi (lo := lo) h2)
      go_enter Try.func99, Try.ntmps99
      go_wp2
      all_goals (go_ret; exact ⟨by rw [H.out]; simp <;> omega, rfl⟩)
  · have H := hide (inB_lo (hi := hi) h1)
    go_enter Try.func99, Try.ntmps99
    go_wp2
    all_goals (go_ret; exact ⟨by rw [H.out]; simp <;> omega, rfl⟩)
theorem rmin_any (n lo hi : Int) (w : World) : Calls Try.prog 100 #[.int .i64 n, .int .i64 lo, .int .i64 hi] w fun e w' => e = .returned (.bool (inB n lo hi)) ∧ w = w' := by
  by_cases h1 : lo ≤ n
  · by_cases h2 : n ≤ hi
    · have H := hide (inB_true h1 h2)
      go_enter Try.func100, Try.ntmps100
      go_wp2
      go_ret
      exact ⟨by rw [H.out]; simp, rfl⟩
    · have H := hide (inB_hi (lo := lo) h2)
      go_enter Try.func100, Try.ntmps100
      go_wp2
      all_goals (go_ret; exact ⟨by rw [H.out]; simp <;> omega, rfl⟩)
  · have H := hide (inB_lo (hi := hi) h1)
    go_enter Try.func100, Try.ntmps100
    go_wp2
    all_goals (go_ret; exact ⟨by rw [H.out]; simp <;> omega, rfl⟩)
/-- The error of a message whose body has n bytes. -/
def mvE (x0 x1 x2 x3 x4 x5 n : Int) : Int := if inB x0 1 1073741824 && inB x1 0 65535 && inB x2 0 65536 && inB x3 0 8 && inB x4 x3 65536 && inB x5 0 1073741824 then (if 16 < n then 2 else 0) else 1
/-- A message as a value. -/
abbrev mV (x0 x1 x2 x3 x4 x5 : Int) (s : ByteArray) : Value := .agg #[.int .i64 x0, .int .i64 x1, .int .i64 x2, .int .i64 x3, .int .i64 x4, .int .i64 x5, .string s]
/-- The message's cells. -/
abbrev mC (x0 x1 x2 x3 x4 x5 : Int) (s : ByteArray) : Array Value := #[.int .i64 x0, .int .i64 x1, .int .i64 x2, .int .i64 x3, .int .i64 x4, .int .i64 x5, .string s]
/-- A variable that holds a message. -/
def Box7 (W : World) (b : Nat) (x0 x1 x2 x3 x4 x5 : Int) (s : ByteArray) : Prop := b < W.heap.size ∧ W.cell? ⟨b, 0, none⟩ = some (.int .i64 x0) ∧ W.cell? ⟨b, 1, none⟩ = some (.int .i64 x1) ∧ W.cell? ⟨b, 2, none⟩ = some (.int .i64 x2) ∧ W.cell? ⟨b, 3, none⟩ = some (.int .i64 x3) ∧
    W.cell? ⟨b, 4, none⟩ = some (.int .i64 x4) ∧ W.cell? ⟨b, 5, none⟩ = some (.int .i64 x5) ∧ W.cell? ⟨b, 6, none⟩ = some (.string s)
theorem Box7.new (w : World) (x0 x1 x2 x3 x4 x5 : Int) (s : ByteArray) (t : TypeId) : Box7 (w.alloc (.cells #[.int .i64 x0, .int .i64 x1, .int .i64 x2, .int .i64 x3, .int .i64 x4, .int .i64 x5, .string s] t)) w.heap.size x0 x1 x2 x3 x4 x5 s := by
  refine ⟨by simp, ?_, ?_, ?_, ?_, ?_, ?_, ?_⟩ <;> simp [World.cell?_alloc_new]
section
variable {W W' : World} {B b : Nat} {x0 x1 x2 x3 x4 x5 : Int} {s : ByteArray}
theorem Box7.keep (h : Box7 W b x0 x1 x2 x3 x4 x5 s) (hs : W.heap.size ≤ W'.heap.size) (hk : ∀ j, W'.cell? ⟨b, j, none⟩ = W.cell? ⟨b, j, none⟩) : Box7 W' b x0 x1 x2 x3 x4 x5 s :=
  ⟨Nat.lt_of_lt_of_le h.1 hs, (hk 0).trans h.2.1, (hk 1).trans h.2.2.1, (hk 2).trans h.2.2.2.1, (hk 3).trans h.2.2.2.2.1, (hk 4).trans h.2.2.2.2.2.1, (hk 5).trans h.2.2.2.2.2.2.1, (hk 6).trans h.2.2.2.2.2.2.2⟩
theorem Box7.below (h : Box7 W b x0 x1 x2 x3 x4 x5 s) (hb : Below B W W') (hB : b < B) : Box7 W' b x0 x1 x2 x3 x4 x5 s := h.keep hb.size fun j => hb.cell (p := ⟨b, j, none⟩) hB
theorem Box7.alloc (h : Box7 W b x0 x1 x2 x3 x4 x5 s) (o : Obj) : Box7 (W.alloc o) b x0 x1 x2 x3 x4 x5 s := h.below ((Below.refl _ _).alloc (Nat.le_refl _) o) h.1
end
set_option maxHeartbeats 1000000 in
set_option maxRecDepth 20000 in
theorem mval_any (x0 x1 x2 x3 x4 x5 : Int) (s : ByteArray) (w : World) : Calls Try.prog 74 #[.agg #[.int .i64 x0, .int .i64 x1, .int .i64 x2, .int .i64 x3, .int .i64 x4, .int .i64 x5, .string s]] w fun e w' => e = .returned (.int .i64 (mvE x0 x1 x2 x3 x4 x5 s.size)) ∧ Below w.heap.size w w' := by
  go_enter Try.func74, Try.ntmps74
  go_wp2_with (first
    | (go_at_call 99; refine (min_any _ _ _ _).mono ?_; rintro e w' ⟨rfl, rfl⟩))
  all_goals go_ret
  all_goals refine ⟨ret_int ?_, (Below.refl _ _).alloc (Nat.le_refl _) _⟩
  all_goals (try simp only [Bool.not_eq_true', Bool.not_eq_false'] at *)
  all_goals (unfold mvE; simp only [*, Bool.and_true, Bool.false_and, Bool.and_false, if_true, if_false, Bool.false_eq_true])
  all_goals (first | done | (rw [if_neg (by omega)]) | (rw [if_pos (by omega)]))
set_option maxHeartbeats 1000000 in
set_option maxRecDepth 20000 in
theorem rmval_any (x0 x1 x2 x3 x4 x5 : Int) (s : ByteArray) (w : World) : Calls Try.prog 75 #[.agg #[.int .i64 x0, .int .i64 x1, .int .i64 x2, .int .i64 x3, .int .i64 x4, .int .i64 x5, .string s]] w fun e w' => e = .returned (.int .i64 (mvE x0 x1 x2 x3 x4 x5 s.size)) ∧ Below w.heap.size w w' := by
  go_enter Try.func75, Try.ntmps75
  go_wp2_with (first
    | (go_at_call 100; refine (rmin_any _ _ _ _).mono ?_; rintro e w' ⟨rfl, rfl⟩))
  all_goals go_ret
  all_goals refine ⟨ret_int ?_, (Below.refl _ _).alloc (Nat.le_refl _) _⟩
  all_goals (try simp only [Bool.not_eq_true', Bool.not_eq_false'] at *)
  all_goals (unfold mvE; simp only [*, Bool.and_true, Bool.false_and, Bool.and_false, if_true, if_false, Bool.false_eq_true])
  all_goals (first | done | (rw [if_neg (by omega)]) | (rw [if_pos (by omega)]))
theorem mpur_any (x0 x1 x2 x3 x4 x5 : Int) (s : ByteArray) (e0 : Int) (w : World) : Calls Try.prog 65 #[.agg #[.int .i64 x0, .int .i64 x1, .int .i64 x2, .int .i64 x3, .int .i64 x4, .int .i64 x5, .string s], .int .i64 e0] w fun e w' => e = .returned (.bool (decide (x2 < e0))) ∧ Below w.heap.size w w' := by
  go_enter Try.func65, Try.ntmps65
  go_wp2_with fail
  go_ret
  exact ⟨rfl, (Below.refl _ _).alloc (Nat.le_refl _) _⟩
theorem rmpur_any (x0 x1 x2 x3 x4 x5 : Int) (s : ByteArray) (e0 : Int) (w : World) : Calls Try.prog 66 #[.agg #[.int .i64 x0, .int .i64 x1, .int .i64 x2, .int .i64 x3, .int .i64 x4, .int .i64 x5, .string s], .int .i64 e0] w fun e w' => e = .returned (.bool (decide (x2 < e0))) ∧ Below w.heap.size w w' := by
  go_enter Try.func66, Try.ntmps66
  go_wp2_with fail
  go_ret
  exact ⟨rfl, (Below.refl _ _).alloc (Nat.le_refl _) _⟩
theorem mspent_any (x0 x1 x2 x3 x4 x5 : Int) (s : ByteArray) (e0 : Int) (w : World) : Calls Try.prog 67 #[.agg #[.int .i64 x0, .int .i64 x1, .int .i64 x2, .int .i64 x3, .int .i64 x4, .int .i64 x5, .string s], .int .i64 e0] w fun e w' => e = .returned (.bool (decide (e0 ≤ x3))) ∧ Below w.heap.size w w' := by
  go_enter Try.func67, Try.ntmps67
  go_wp2_with fail
  go_ret
  exact ⟨by simp, (Below.refl _ _).alloc (Nat.le_refl _) _⟩
theorem rmspent_any (x0 x1 x2 x3 x4 x5 : Int) (s : ByteArray) (e0 : Int) (w : World) : Calls Try.prog 68 #[.agg #[.int .i64 x0, .int .i64 x1, .int .i64 x2, .int .i64 x3, .int .i64 x4, .int .i64 x5, .string s], .int .i64 e0] w fun e w' => e = .returned (.bool (decide (e0 ≤ x3))) ∧ Below w.heap.size w w' := by
  go_enter Try.func68, Try.ntmps68
  go_wp2_with fail
  go_ret
  exact ⟨by simp, (Below.refl _ _).alloc (Nat.le_refl _) _⟩
end Go.Proofs.Ytaoiekcoiooghaa
