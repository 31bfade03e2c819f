/- The walk of 'WalkRaw': it returns true. No condition. -/
import Derived.Test.YtaoiekcoiooghaaWk1
namespace Go.Proofs.Ytaoiekcoiooghaa
open Go.RowKit
/-- A variable of two cells. -/
def Box2 (W : World) (b : Nat) (x y : Int) : Prop := b < W.heap.size ∧ W.cell? ⟨b, 0, none⟩ = some (.int .i64 x) ∧ W.cell? ⟨b, 1, none⟩ = some (.int .i64 y)
theorem Box2.new (w : World) (x y : Int) (t : TypeId) : Box2 (w.alloc (.cells #[.int .i64 x, .int .i64 y] t)) w.heap.size x y := by
  refine ⟨by simp, ?_, ?_⟩ <;> simp [World.cell?_alloc_new]
section
variable {W W' : World} {B b c : Nat} {x y : Int}
theorem Box2.below (h : Box2 W b x y) (hb : Below B W W') (hB : b < B) : Box2 W' b x y := ⟨Nat.lt_of_lt_of_le h.1 hb.size, (hb.cell (p := ⟨b, 0, none⟩) hB).trans h.2.1, (hb.cell (p := ⟨b, 1, none⟩) hB).trans h.2.2⟩
theorem Box2.alloc (h : Box2 W b x y) (o : Obj) : Box2 (W.alloc o) b x y := h.below ((Below.refl _ _).alloc (Nat.le_refl _) o) h.1
theorem Box2.oth (h : Box2 W b x y) (hb : Oth B c W W') (hB : b < B) (hn : b ≠ c) : Box2 W' b x y := ⟨Nat.lt_of_lt_of_le h.1 hb.size, (hb.cell (p := ⟨b, 0, none⟩) hB hn).trans h.2.1, (hb.cell (p := ⟨b, 1, none⟩) hB hn).trans h.2.2⟩
end
/-- What is kept while the results are compared. -/
def KX (w W : World) : Prop := Below w.heap.size w W
theorem keepR {w W W' : World} {b0 b1 b2 b3 b4 b5 b6 b7 : Nat} {y0 z0 y1 z1 y2 z2 y3 z3 y4 z4 y5 z5 y6 z6 y7 z7 : Value} (h : W.cell? ⟨b0, 0, none⟩ = some (y0) ∧ W.cell? ⟨b0, 1, none⟩ = some (z0) ∧ W.cell? ⟨b1, 0, none⟩ = some (y1) ∧ W.cell? ⟨b1, 1, none⟩ = some (z1) ∧ W.cell? ⟨b2, 0, none⟩ = some (y2) ∧ W.cell? ⟨b2, 1, none⟩ = some (z2) ∧ W.cell? ⟨b3, 0, none⟩ = some (y3) ∧ W.cell? ⟨b3, 1, none⟩ = some (z3) ∧ W.cell? ⟨b4, 0, none⟩ = some (y4) ∧ W.cell? ⟨b4, 1, none⟩ = some (z4) ∧ W.cell? ⟨b5, 0, none⟩ = some (y5) ∧ W.cell? ⟨b5, 1, none⟩ = some (z5) ∧ W.cell? ⟨b6, 0, none⟩ = some (y6) ∧ W.cell? ⟨b6, 1, none⟩ = some (z6) ∧ W.cell? ⟨b7, 0, none⟩ = some (y7) ∧ W.cell? ⟨b7, 1, none⟩ = some (z7) ∧ KX w W) (hb : Below W.heap.size W W') : W'.cell? ⟨b0, 0, none⟩ = some (y0) ∧ W'.cell? ⟨b0, 1, none⟩ = some (z0) ∧ W'.cell? ⟨b1, 0, none⟩ = some (y1) ∧ W'.cell? ⟨b1, 1, none⟩ = some (z1) ∧ W'.cell? ⟨b2, 0, none⟩ = some (y2) ∧ W'.cell? ⟨b2, 1, none⟩ = some (z2) ∧ W'.cell? ⟨b3, 0, none⟩ = some (y3) ∧ W'.cell? ⟨b3, 1, none⟩ = some (z3) ∧ W'.cell? ⟨b4, 0, none⟩ = some (y4) ∧ W'.cell? ⟨b4, 1, none⟩ = some (z4) ∧ W'.cell? ⟨b5, 0, none⟩ = some (y5) ∧ W'.cell? ⟨b5, 1, none⟩ = some (z5) ∧ W'.cell? ⟨b6, 0, none⟩ = some (y6) ∧ W'.cell? ⟨b6, 1, none⟩ = some (z6) ∧ W'.cell? ⟨b7, 0, none⟩ = some (y7) ∧ W'.cell? ⟨b7, 1, none⟩ = some (z7) ∧ KX w W' := by
  have k : ∀ {p : Addr} {x : Value}, W.cell? p = some x → W'.cell? p = some x := fun {p x} hx => (hb.cell (p := p) (World.block_lt_of_cell? W _ hx)).trans hx
  obtain ⟨h0, h1, h2, h3, h4, h5, h6, h7, h8, h9, h10, h11, h12, h13, h14, h15, hw⟩ := h
  exact ⟨k h0, k h1, k h2, k h3, k h4, k h5, k h6, k h7, k h8, k h9, k h10, k h11, k h12, k h13, k h14, k h15, Below.trans hw (hb.mono (Below.size hw))⟩
theorem belowR {w W : World} {b0 b1 b2 b3 b4 b5 b6 b7 : Nat} {y0 z0 y1 z1 y2 z2 y3 z3 y4 z4 y5 z5 y6 z6 y7 z7 : Value} (h : W.cell? ⟨b0, 0, none⟩ = some (y0) ∧ W.cell? ⟨b0, 1, none⟩ = some (z0) ∧ W.cell? ⟨b1, 0, none⟩ = some (y1) ∧ W.cell? ⟨b1, 1, none⟩ = some (z1) ∧ W.cell? ⟨b2, 0, none⟩ = some (y2) ∧ W.cell? ⟨b2, 1, none⟩ = some (z2) ∧ W.cell? ⟨b3, 0, none⟩ = some (y3) ∧ W.cell? ⟨b3, 1, none⟩ = some (z3) ∧ W.cell? ⟨b4, 0, none⟩ = some (y4) ∧ W.cell? ⟨b4, 1, none⟩ = some (z4) ∧ W.cell? ⟨b5, 0, none⟩ = some (y5) ∧ W.cell? ⟨b5, 1, none⟩ = some (z5) ∧ W.cell? ⟨b6, 0, none⟩ = some (y6) ∧ W.cell? ⟨b6, 1, none⟩ = some (z6) ∧ W.cell? ⟨b7, 0, none⟩ = some (y7) ∧ W.cell? ⟨b7, 1, none⟩ = some (z7) ∧ KX w W) : Below w.heap.size w W := by
  obtain ⟨h0, h1, h2, h3, h4, h5, h6, h7, h8, h9, h10, h11, h12, h13, h14, h15, hw⟩ := h
  exact hw
set_option maxHeartbeats 8000000 in
set_option maxRecDepth 100000 in
theorem walkRaw_walk (x00 x01 : Int) (a1 : Int) (a2 : Int) (a3 : Int) (A4 : Option Addr) (n4 c4 : Nat) (l4 : List Int) (w : World) (_w00 : -9223372036854775808 ≤ x00 ∧ x00 ≤ 9223372036854775807) (_w01 : -9223372036854775808 ≤ x01 ∧ x01 ≤ 9223372036854775807) (_w1 : -9223372036854775808 ≤ a1 ∧ a1 ≤ 9223372036854775807) (_w2 : -9223372036854775808 ≤ a2 ∧ a2 ≤ 9223372036854775807) (_w3 : -9223372036854775808 ≤ a3 ∧ a3 ≤ 9223372036854775807) (w4 : Reads w w.heap.size A4 n4 (ivs l4)) (k4 : n4 ≤ c4) (m4 : c4 ≤ maxLen) (b4 : ∀ x ∈ l4, -9223372036854775808 ≤ x ∧ x ≤ 9223372036854775807) :
    Calls Try.prog 3 #[.agg #[.int .i64 x00, .int .i64 x01], .int .i64 a1, .int .i64 a2, .int .i64 a3, .slice A4 n4 c4] w fun e w' => e = .returned (.bool true) ∧ Below w.heap.size w w' := by
  clear _w00 _w01 _w1 _w2 _w3
  have BB := hide b4
  clear b4
  go_enter Try.func3, Try.ntmps3
  go_wp2_with fail
  have W : Below w.heap.size w (w.alloc (.cells #[.int .i64 x00, .int .i64 x01] 23)) := (Below.refl _ _).alloc (Nat.le_refl _) _
  have X5 := Box2.new w x00 x01 23
  have hr := (w4.alloc (Nat.le_refl _) (.cells #[.int .i64 x00, .int .i64 x01] 23)).more (Nat.le_of_lt X5.1)
  refine (bnew_any _ _ _ _ _ hr k4 m4 BB.out).mono ?_
  rintro e w1 ⟨rfl, S, hb⟩
  have h5s := X5.1
  have hsw := W.size
  replace W := W.trans (hb.mono W.size)
  replace X5 := X5.below hb X5.1
  clear hb hr w4 k4 m4 BB
  generalize (w.alloc (.cells #[.int .i64 x00, .int .i64 x01] 23)).heap.size = bs at *
  go_wp2_with fail
  refine (wbeg_any _ _).mono ?_
  rintro e w2 ⟨rfl, hb⟩
  replace W := W.trans (hb.mono W.size)
  replace S := S.below hb S.1
  replace X5 := X5.below hb X5.1
  have hs12 := S.1
  replace W := W.alloc W.size (.cells #[.int .i64 (begN a1), .int .i64 0] 23)
  replace S := S.alloc (.cells #[.int .i64 (begN a1), .int .i64 0] 23)
  replace X5 := X5.alloc (.cells #[.int .i64 (begN a1), .int .i64 0] 23)
  have X12 := Box2.new w2 (begN a1) 0 23
  clear hb
  go_wp2_with fail
  generalize w2.heap.size = B12 at *
  generalize w2.alloc (.cells #[.int .i64 (begN a1), .int .i64 0] 23) = v12 at *
  go_wp2_with fail
  refine (rwbeg_any _ _).mono ?_
  rintro e w3 ⟨rfl, hb⟩
  replace W := W.trans (hb.mono W.size)
  replace S := S.below hb S.1
  replace X5 := X5.below hb X5.1
  replace X12 := X12.below hb X12.1
  have hs14 := S.1
  replace W := W.alloc W.size (.cells #[.int .i64 (begN a1), .int .i64 0] 23)
  replace S := S.alloc (.cells #[.int .i64 (begN a1), .int .i64 0] 23)
  replace X5 := X5.alloc (.cells #[.int .i64 (begN a1), .int .i64 0] 23)
  replace X12 := X12.alloc (.cells #[.int .i64 (begN a1), .int .i64 0] 23)
  have X14 := Box2.new w3 (begN a1) 0 23
  clear hb
  obtain ⟨_, q0, q1⟩ := id X5
  go_wp2_with fail
  generalize w3.heap.size = B14 at *
  generalize w3.alloc (.cells #[.int .i64 (begN a1), .int .i64 0] 23) = v14 at *
  refine (wadv_any _ _ _ _ _).mono ?_
  rintro e w4 ⟨rfl, hb⟩
  clear q0 q1
  replace W := W.trans (hb.mono W.size)
  replace S := S.below hb S.1
  replace X5 := X5.below hb X5.1
  replace X12 := X12.below hb X12.1
  replace X14 := X14.below hb X14.1
  have hs16 := S.1
  replace W := W.alloc W.size (.cells #[.int .i64 (advN x00 x01 a2 a3), .int .i64 (advC x00 x01 a2 a3)] 23)
  replace S := S.alloc (.cells #[.int .i64 (advN x00 x01 a2 a3), .int .i64 (advC x00 x01 a2 a3)] 23)
  replace X5 := X5.alloc (.cells #[.int .i64 (advN x00 x01 a2 a3), .int .i64 (advC x00 x01 a2 a3)] 23)
  replace X12 := X12.alloc (.cells #[.int .i64 (advN x00 x01 a2 a3), .int .i64 (advC x00 x01 a2 a3)] 23)
  replace X14 := X14.alloc (.cells #[.int .i64 (advN x00 x01 a2 a3), .int .i64 (advC x00 x01 a2 a3)] 23)
  have X16 := Box2.new w4 (advN x00 x01 a2 a3) (advC x00 x01 a2 a3) 23
  clear hb
  obtain ⟨_, q0, q1⟩ := id X5
  go_wp2_with fail
  generalize w4.heap.size = B16 at *
  generalize w4.alloc (.cells #[.int .i64 (advN x00 x01 a2 a3), .int .i64 (advC x00 x01 a2 a3)] 23) = v16 at *
  refine (rwadv_any _ _ _ _ _).mono ?_
  rintro e w5 ⟨rfl, hb⟩
  clear q0 q1
  replace W := W.trans (hb.mono W.size)
  replace S := S.below hb S.1
  replace X5 := X5.below hb X5.1
  replace X12 := X12.below hb X12.1
  replace X14 := X14.below hb X14.1
  replace X16 := X16.below hb X16.1
  have hs18 := S.1
  replace W := W.alloc W.size (.cells #[.int .i64 (advN x00 x01 a2 a3), .int .i64 (advC x00 x01 a2 a3)] 23)
  replace S := S.alloc (.cells #[.int .i64 (advN x00 x01 a2 a3), .int .i64 (advC x00 x01 a2 a3)] 23)
  replace X5 := X5.alloc (.cells #[.int .i64 (advN x00 x01 a2 a3), .int .i64 (advC x00 x01 a2 a3)] 23)
  replace X12 := X12.alloc (.cells #[.int .i64 (advN x00 x01 a2 a3), .int .i64 (advC x00 x01 a2 a3)] 23)
  replace X14 := X14.alloc (.cells #[.int .i64 (advN x00 x01 a2 a3), .int .i64 (advC x00 x01 a2 a3)] 23)
  replace X16 := X16.alloc (.cells #[.int .i64 (advN x00 x01 a2 a3), .int .i64 (advC x00 x01 a2 a3)] 23)
  have X18 := Box2.new w5 (advN x00 x01 a2 a3) (advC x00 x01 a2 a3) 23
  clear hb
  go_wp2_with fail
  generalize w5.heap.size = B18 at *
  generalize w5.alloc (.cells #[.int .i64 (advN x00 x01 a2 a3), .int .i64 (advC x00 x01 a2 a3)] 23) = v18 at *
  refine (bn_any bs _ _ S (by decide) (by decide)).mono ?_
  rintro e w6 ⟨x, hx1, hx2, rfl, S6, ho⟩
  clear S
  have S := S6
  replace W := W.trans ((ho.mono W.size).below (Nat.le_refl _) (by omega))
  replace X5 := X5.oth ho X5.1 (by omega)
  replace X12 := X12.oth ho X12.1 (by omega)
  replace X14 := X14.oth ho X14.1 (by omega)
  replace X16 := X16.oth ho X16.1 (by omega)
  replace X18 := X18.oth ho X18.1 (by omega)
  clear ho S6
  have HS := hide S
  clear S
  go_wp2_with fail
  have hg := rowN_new w6 [0, 1, 60000, 65535, 65536, -1] 3
  have S := HS.out.alloc (.cells (ivs [0, 1, 60000, 65535, 65536, -1]).toArray 3)
  replace W := W.alloc W.size (.cells (ivs [0, 1, 60000, 65535, 65536, -1]).toArray 3)
  replace X5 := X5.alloc (.cells (ivs [0, 1, 60000, 65535, 65536, -1]).toArray 3)
  replace X12 := X12.alloc (.cells (ivs [0, 1, 60000, 65535, 65536, -1]).toArray 3)
  replace X14 := X14.alloc (.cells (ivs [0, 1, 60000, 65535, 65536, -1]).toArray 3)
  replace X16 := X16.alloc (.cells (ivs [0, 1, 60000, 65535, 65536, -1]).toArray 3)
  replace X18 := X18.alloc (.cells (ivs [0, 1, 60000, 65535, 65536, -1]).toArray 3)
  refine (bpick_any bs _ 6 _ _ S hg (by have := HS.out.1; omega) rfl (by decide) (by decide)).mono ?_
  rintro e w7 ⟨y, hy, rfl, S7, ho⟩
  replace W := W.trans ((ho.mono W.size).below (Nat.le_refl _) (by omega))
  replace X5 := X5.oth ho X5.1 (by omega)
  replace X12 := X12.oth ho X12.1 (by omega)
  replace X14 := X14.oth ho X14.1 (by omega)
  replace X16 := X16.oth ho X16.1 (by omega)
  replace X18 := X18.oth ho X18.1 (by omega)
  clear ho S hg HS hy
  have hs20 := S7.1
  replace W := W.alloc W.size (.cells #[.int .i64 x, .int .i64 y] 23)
  have S := S7.alloc (.cells #[.int .i64 x, .int .i64 y] 23)
  replace X5 := X5.alloc (.cells #[.int .i64 x, .int .i64 y] 23)
  replace X12 := X12.alloc (.cells #[.int .i64 x, .int .i64 y] 23)
  replace X14 := X14.alloc (.cells #[.int .i64 x, .int .i64 y] 23)
  replace X16 := X16.alloc (.cells #[.int .i64 x, .int .i64 y] 23)
  replace X18 := X18.alloc (.cells #[.int .i64 x, .int .i64 y] 23)
  have X20 := Box2.new w7 x y 23
  clear S7
  have HS := hide S
  clear S
  go_wp2_with fail
  generalize w7.heap.size = B20 at *
  generalize w7.alloc (.cells #[.int .i64 x, .int .i64 y] 23) = v20 at *
  refine (bspan_any bs _ HS.out).mono ?_
  rintro e w8 ⟨p, q, hp1, hpq, hq2, rfl, S8, ho⟩
  replace W := W.trans ((ho.mono W.size).below (Nat.le_refl _) (by omega))
  replace X5 := X5.oth ho X5.1 (by omega)
  replace X12 := X12.oth ho X12.1 (by omega)
  replace X14 := X14.oth ho X14.1 (by omega)
  replace X16 := X16.oth ho X16.1 (by omega)
  replace X18 := X18.oth ho X18.1 (by omega)
  replace X20 := X20.oth ho X20.1 (by omega)
  clear ho HS
  have S := S8
  clear S8
  obtain ⟨_, q0, q1⟩ := id X20
  clear hx1 hx2 hp1 hpq hq2
  go_wp2_with fail
  refine (wadv_any _ _ _ _ _).mono ?_
  rintro e w9 ⟨rfl, hb⟩
  clear q0 q1
  replace W := W.trans (hb.mono W.size)
  replace S := S.below hb S.1
  replace X5 := X5.below hb X5.1
  replace X12 := X12.below hb X12.1
  replace X14 := X14.below hb X14.1
  replace X16 := X16.below hb X16.1
  replace X18 := X18.below hb X18.1
  replace X20 := X20.below hb X20.1
  have hs23 := S.1
  replace W := W.alloc W.size (.cells #[.int .i64 (advN x y p q), .int .i64 (advC x y p q)] 23)
  replace S := S.alloc (.cells #[.int .i64 (advN x y p q), .int .i64 (advC x y p q)] 23)
  replace X5 := X5.alloc (.cells #[.int .i64 (advN x y p q), .int .i64 (advC x y p q)] 23)
  replace X12 := X12.alloc (.cells #[.int .i64 (advN x y p q), .int .i64 (advC x y p q)] 23)
  replace X14 := X14.alloc (.cells #[.int .i64 (advN x y p q), .int .i64 (advC x y p q)] 23)
  replace X16 := X16.alloc (.cells #[.int .i64 (advN x y p q), .int .i64 (advC x y p q)] 23)
  replace X18 := X18.alloc (.cells #[.int .i64 (advN x y p q), .int .i64 (advC x y p q)] 23)
  replace X20 := X20.alloc (.cells #[.int .i64 (advN x y p q), .int .i64 (advC x y p q)] 23)
  have X23 := Box2.new w9 (advN x y p q) (advC x y p q) 23
  clear hb
  obtain ⟨_, q0, q1⟩ := id X20
  go_wp2_with fail
  generalize w9.heap.size = B23 at *
  generalize w9.alloc (.cells #[.int .i64 (advN x y p q), .int .i64 (advC x y p q)] 23) = v23 at *
  refine (rwadv_any _ _ _ _ _).mono ?_
  rintro e w10 ⟨rfl, hb⟩
  clear q0 q1
  replace W := W.trans (hb.mono W.size)
  replace S := S.below hb S.1
  replace X5 := X5.below hb X5.1
  replace X12 := X12.below hb X12.1
  replace X14 := X14.below hb X14.1
  replace X16 := X16.below hb X16.1
  replace X18 := X18.below hb X18.1
  replace X20 := X20.below hb X20.1
  replace X23 := X23.below hb X23.1
  have hs25 := S.1
  replace W := W.alloc W.size (.cells #[.int .i64 (advN x y p q), .int .i64 (advC x y p q)] 23)
  replace S := S.alloc (.cells #[.int .i64 (advN x y p q), .int .i64 (advC x y p q)] 23)
  replace X5 := X5.alloc (.cells #[.int .i64 (advN x y p q), .int .i64 (advC x y p q)] 23)
  replace X12 := X12.alloc (.cells #[.int .i64 (advN x y p q), .int .i64 (advC x y p q)] 23)
  replace X14 := X14.alloc (.cells #[.int .i64 (advN x y p q), .int .i64 (advC x y p q)] 23)
  replace X16 := X16.alloc (.cells #[.int .i64 (advN x y p q), .int .i64 (advC x y p q)] 23)
  replace X18 := X18.alloc (.cells #[.int .i64 (advN x y p q), .int .i64 (advC x y p q)] 23)
  replace X20 := X20.alloc (.cells #[.int .i64 (advN x y p q), .int .i64 (advC x y p q)] 23)
  replace X23 := X23.alloc (.cells #[.int .i64 (advN x y p q), .int .i64 (advC x y p q)] 23)
  have X25 := Box2.new w10 (advN x y p q) (advC x y p q) 23
  clear hb
  go_wp2_with fail
  generalize w10.heap.size = B25 at *
  generalize w10.alloc (.cells #[.int .i64 (advN x y p q), .int .i64 (advC x y p q)] 23) = v25 at *
  have K0 : KX w v25.drew := W.drew
  obtain ⟨_, c0, d0⟩ := X5
  obtain ⟨_, c1, d1⟩ := X12
  obtain ⟨_, c2, d2⟩ := X14
  obtain ⟨_, c3, d3⟩ := X16
  obtain ⟨_, c4, d4⟩ := X18
  obtain ⟨_, c5, d5⟩ := X20
  obtain ⟨_, c6, d6⟩ := X23
  obtain ⟨_, c7, d7⟩ := X25
  clear S W
  go_region_held3 (fun w' => w'.cell? ⟨w.heap.size, 0, none⟩ = some (.int .i64 x00) ∧ w'.cell? ⟨w.heap.size, 1, none⟩ = some (.int .i64 x01) ∧ w'.cell? ⟨B12, 0, none⟩ = some (.int .i64 (begN a1)) ∧ w'.cell? ⟨B12, 1, none⟩ = some (.int .i64 0) ∧ w'.cell? ⟨B14, 0, none⟩ = some (.int .i64 (begN a1)) ∧ w'.cell? ⟨B14, 1, none⟩ = some (.int .i64 0) ∧ w'.cell? ⟨B16, 0, none⟩ = some (.int .i64 (advN x00 x01 a2 a3)) ∧ w'.cell? ⟨B16, 1, none⟩ = some (.int .i64 (advC x00 x01 a2 a3)) ∧ w'.cell? ⟨B18, 0, none⟩ = some (.int .i64 (advN x00 x01 a2 a3)) ∧ w'.cell? ⟨B18, 1, none⟩ = some (.int .i64 (advC x00 x01 a2 a3)) ∧ w'.cell? ⟨B20, 0, none⟩ = some (.int .i64 x) ∧ w'.cell? ⟨B20, 1, none⟩ = some (.int .i64 y) ∧ w'.cell? ⟨B23, 0, none⟩ = some (.int .i64 (advN x y p q)) ∧ w'.cell? ⟨B23, 1, none⟩ = some (.int .i64 (advC x y p q)) ∧ w'.cell? ⟨B25, 0, none⟩ = some (.int .i64 (advN x y p q)) ∧ w'.cell? ⟨B25, 1, none⟩ = some (.int .i64 (advC x y p q)) ∧ KX w w')
    (first | exact ⟨c0, d0, c1, d1, c2, d2, c3, d3, c4, d4, c5, d5, c6, d6, c7, d7, K0⟩ | exact keepR (by assumption) (by assumption) | assumption)
    (first
      | (go_at_call 35; refine (wover_any _ _ _).mono ?_; rintro e w' ⟨rfl, hb⟩)
      | (go_at_call 36; refine (rwover_any _ _ _).mono ?_; rintro e w' ⟨rfl, hb⟩)
      | (go_at_call 37; refine (wawake_any _).mono ?_; rintro e w' ⟨rfl, hb⟩))
  all_goals go_wp2_with fail
  all_goals go_ret
  all_goals exact ⟨rfl, belowR (by assumption)⟩
end Go.Proofs.Ytaoiekcoiooghaa
