/- The walk of 'MessageStates': it returns true. No condition. -/
import Derived.Test.YtaoiekcoiooghaaMsf
namespace Go.Proofs.Ytaoiekcoiooghaa
open Go.RowKit
/-- What is kept while the tests are asked. -/
def KW (w W : World) : Prop := Below w.heap.size w W
theorem keepM {w W W' : World} {b : Nat} {y0 y1 y2 y3 y4 y5 y6 : Value}
    (h : W.cell? ⟨b, 0, none⟩ = some y0 ∧ W.cell? ⟨b, 1, none⟩ = some y1 ∧ W.cell? ⟨b, 2, none⟩ = some y2 ∧ W.cell? ⟨b, 3, none⟩ = some y3 ∧ W.cell? ⟨b, 4, none⟩ = some y4 ∧ W.cell? ⟨b, 5, none⟩ = some y5 ∧ W.cell? ⟨b, 6, none⟩ = some y6 ∧ KW w W) (hb : Below W.heap.size W W') :
    W'.cell? ⟨b, 0, none⟩ = some y0 ∧ W'.cell? ⟨b, 1, none⟩ = some y1 ∧ W'.cell? ⟨b, 2, none⟩ = some y2 ∧ W'.cell? ⟨b, 3, none⟩ = some y3 ∧ W'.cell? ⟨b, 4, none⟩ = some y4 ∧ W'.cell? ⟨b, 5, none⟩ = some y5 ∧ W'.cell? ⟨b, 6, none⟩ = some y6 ∧ KW w W' := by
  have k : ∀ {p : Addr} {x : Value}, W.cell? p = some x → W'.cell? p = some x := fun {p x} hx => (hb.cell (p := p) (World.block_lt_of_cell? W _ hx)).trans hx
  obtain ⟨h0, h1, h2, h3, h4, h5, h6, hw⟩ := h
  exact ⟨k h0, k h1, k h2, k h3, k h4, k h5, k h6, Below.trans hw (hb.mono (Below.size hw))⟩
theorem belowM {w W : World} {b : Nat} {y0 y1 y2 y3 y4 y5 y6 : Value}
    (h : W.cell? ⟨b, 0, none⟩ = some y0 ∧ W.cell? ⟨b, 1, none⟩ = some y1 ∧ W.cell? ⟨b, 2, none⟩ = some y2 ∧ W.cell? ⟨b, 3, none⟩ = some y3 ∧ W.cell? ⟨b, 4, none⟩ = some y4 ∧ W.cell? ⟨b, 5, none⟩ = some y5 ∧ W.cell? ⟨b, 6, none⟩ = some y6 ∧ KW w W) : Below w.heap.size w W := h.2.2.2.2.2.2.2
set_option maxHeartbeats 8000000 in
set_option maxRecDepth 20000 in
theorem messageStates_walk (x00 x01 x02 x03 x04 x05 : Int) (s0 : ByteArray) (a1 : Int) (a2 : Int) (w : World) (_w00 : -9223372036854775808 ≤ x00 ∧ x00 ≤ 9223372036854775807) (_w01 : -9223372036854775808 ≤ x01 ∧ x01 ≤ 9223372036854775807) (_w02 : -9223372036854775808 ≤ x02 ∧ x02 ≤ 9223372036854775807) (_w03 : -9223372036854775808 ≤ x03 ∧ x03 ≤ 9223372036854775807) (_w04 : -9223372036854775808 ≤ x04 ∧ x04 ≤ 9223372036854775807) (_w05 : -9223372036854775808 ≤ x05 ∧ x05 ≤ 9223372036854775807) (_w1 : -9223372036854775808 ≤ a1 ∧ a1 ≤ 9223372036854775807) (_w2 : -9223372036854775808 ≤ a2 ∧ a2 ≤ 9223372036854775807) :
    Calls Try.prog 17 #[.agg #[.int .i64 x00, .int .i64 x01, .int .i64 x02, .int .i64 x03, .int .i64 x04, .int .i64 x05, .string s0], .int .i64 a1, .int .i64 a2] w fun e w' => e = .returned (.bool true) ∧ Below w.heap.size w w' := by
  clear _w00 _w01 _w02 _w03 _w04 _w05 _w1 _w2
  have W0 : KW w (w.alloc (.cells #[.int .i64 x00, .int .i64 x01, .int .i64 x02, .int .i64 x03, .int .i64 x04, .int .i64 x05, .string s0] 75)).drew := ((Below.refl _ _).alloc (Nat.le_refl _) _).drew
  have X0 := Box7.new w x00 x01 x02 x03 x04 x05 s0 75
  obtain ⟨_, q0, q1, q2, q3, q4, q5, q6⟩ := X0
  go_enter Try.func17, Try.ntmps17
  go_wp2_with fail
  go_region_held3 (fun w' => w'.cell? ⟨w.heap.size, 0, none⟩ = some (.int .i64 x00) ∧ w'.cell? ⟨w.heap.size, 1, none⟩ = some (.int .i64 x01) ∧ w'.cell? ⟨w.heap.size, 2, none⟩ = some (.int .i64 x02) ∧ w'.cell? ⟨w.heap.size, 3, none⟩ = some (.int .i64 x03) ∧
      w'.cell? ⟨w.heap.size, 4, none⟩ = some (.int .i64 x04) ∧ w'.cell? ⟨w.heap.size, 5, none⟩ = some (.int .i64 x05) ∧ w'.cell? ⟨w.heap.size, 6, none⟩ = some (.string s0) ∧ KW w w')
    (first | exact ⟨q0, q1, q2, q3, q4, q5, q6, W0⟩ | exact keepM (by assumption) (by assumption) | assumption)
    (first
      | (go_at_call 65; refine (mpur_any _ _ _ _ _ _ _ _ _).mono ?_; rintro e w' ⟨rfl, hb⟩)
      | (go_at_call 66; refine (rmpur_any _ _ _ _ _ _ _ _ _).mono ?_; rintro e w' ⟨rfl, hb⟩)
      | (go_at_call 67; refine (mspent_any _ _ _ _ _ _ _ _ _).mono ?_; rintro e w' ⟨rfl, hb⟩)
      | (go_at_call 68; refine (rmspent_any _ _ _ _ _ _ _ _ _).mono ?_; rintro e w' ⟨rfl, hb⟩)
      | (go_at_call 69; refine (mrcv_any _ _ _ _ _ _ _ _ _ _).mono ?_; rintro e w' ⟨rfl, hb⟩)
      | (go_at_call 70; refine (rmrcv_any _ _ _ _ _ _ _ _ _ _).mono ?_; rintro e w' ⟨rfl, hb⟩)
      | (go_at_call 71; refine (mawake_any _).mono ?_; rintro e w' ⟨rfl, hb⟩))
  all_goals go_wp2_with fail
  all_goals go_ret
  all_goals exact ⟨rfl, belowM (by assumption)⟩
end Go.Proofs.Ytaoiekcoiooghaa
