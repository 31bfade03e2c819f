/- The walk of 'DigestInto': it returns true. No condition. -/
import Derived.Test.YtaoiekcoiooghaaDg2
namespace Go.Proofs.Ytaoiekcoiooghaa
open Go.RowKit

theorem mask16 (a : Int) : ∃ r : Int, 0 ≤ r ∧ r < 65536 ∧ bits BinOp.and IntKind.i64 a 65535 = r := ⟨a % 65536, by omega, by omega, i64_and65535 a⟩
theorem into_in {r l h : Int} (h0 : 0 ≤ l) (h1 : l ≤ h) (h2 : h < 65536) (h3 : 0 ≤ r) (h4 : r < 65536) : l ≤ into r l h ∧ into r l h ≤ h := by
  have hb := into_mod r l h h1
  unfold into
  (repeat' split) <;> omega
theorem into_same {r l h : Int} (h0 : 0 ≤ l) (h2 : h < 65536) (h3 : l ≤ r) (h4 : r ≤ h) : into r l h = r := by
  unfold into
  (repeat' split) <;> omega
set_option maxHeartbeats 1000000 in
theorem digestInto_core (a0 a1 a2 r l h : Int) (w : World) (e0 : bits BinOp.and IntKind.i64 a0 65535 = r) (e1 : bits BinOp.and IntKind.i64 a1 65535 = l) (e2 : bits BinOp.and IntKind.i64 a2 65535 = h)
    (hr0 : 0 ≤ r) (hr1 : r < 65536) (hl0 : 0 ≤ l) (hl1 : l < 65536) (hh0 : 0 ≤ h) (hh1 : h < 65536) :
    Calls Try.prog 7 #[.int .i64 a0, .int .i64 a1, .int .i64 a2] w fun e w' => e = .returned (.bool true) ∧ Below w.heap.size w w' := by
  have key : ∀ lo hi : Int, 0 ≤ lo → lo ≤ hi → hi < 65536 → ∃ v : Int, into r lo hi = v ∧ into v lo hi = v ∧ lo ≤ v ∧ v ≤ hi ∧ (r < lo ∨ hi < r ∨ (v == r) = true) := by
    intro lo hi h1 h2 h3
    have h4 := into_in h1 h2 h3 hr0 hr1
    refine ⟨into r lo hi, rfl, into_same h1 h3 h4.1 h4.2, h4.1, h4.2, ?_⟩
    by_cases h5 : r < lo
    · exact .inl h5
    · by_cases h6 : hi < r
      · exact .inr (.inl h6)
      · exact .inr (.inr (by rw [beq_iff_eq]; exact into_same h1 h3 (by omega) (by omega)))
  by_cases hlh : h < l
  · obtain ⟨v, k1, k2, k3, k4, k5⟩ := key h l hh0 (by omega) hl1
    clear key
    rcases k5 with k5 | k5 | k5
    all_goals
      go_enter Try.func7, Try.ntmps7
      go_wp2_with (first
        | (go_at_call 41; refine (into_any _ _ _ _).mono ?_; rintro e w' ⟨rfl, rfl⟩)
        | (go_at_call 42; refine (dawake_any _).mono ?_; rintro e w' ⟨rfl, hb⟩))
      all_goals (go_ret; exact ⟨rfl, by assumption⟩)
  · obtain ⟨v, k1, k2, k3, k4, k5⟩ := key l h hl0 (by omega) hh1
    clear key
    rcases k5 with k5 | k5 | k5
    all_goals
      go_enter Try.func7, Try.ntmps7
      go_wp2_with (first
        | (go_at_call 41; refine (into_any _ _ _ _).mono ?_; rintro e w' ⟨rfl, rfl⟩)
        | (go_at_call 42; refine (dawake_any _).mono ?_; rintro e w' ⟨rfl, hb⟩))
      all_goals (go_ret; exact ⟨rfl, by assumption⟩)
theorem digestInto_walk (a0 : Int) (a1 : Int) (a2 : Int) (w : World) (_ : -9223372036854775808 ≤ a0 ∧ a0 ≤ 9223372036854775807) (_ : -9223372036854775808 ≤ a1 ∧ a1 ≤ 9223372036854775807) (_ : -9223372036854775808 ≤ a2 ∧ a2 ≤ 9223372036854775807) :
    Calls Try.prog 7 #[.int .i64 a0, .int .i64 a1, .int .i64 a2] w fun e w' => e = .returned (.bool true) ∧ Below w.heap.size w w' := by
  obtain ⟨r, h1, h2, h3⟩ := mask16 a0
  obtain ⟨l, h4, h5, h6⟩ := mask16 a1
  obtain ⟨h, h7, h8, h9⟩ := mask16 a2
  exact digestInto_core a0 a1 a2 r l h w h3 h6 h9 h1 h2 h4 h5 h7 h8
end Go.Proofs.Ytaoiekcoiooghaa
