/- The walk of 'MessageChanges': it returns true. No condition. -/
import Derived.Test.YtaoiekcoiooghaaBs4
import Derived.Test.YtaoiekcoiooghaaMessageStatesW
import Derived.Test.YtaoiekcoiooghaaMs3
namespace Go.Proofs.Ytaoiekcoiooghaa
open Go.RowKit
theorem delV_agg (x0 x1 x2 x3 x4 x5 : Int) (s : ByteArray) : ∃ (d0 d1 d2 d3 d4 d5 : Int) (sd : ByteArray), delV x0 x1 x2 x3 x4 x5 s = .agg #[.int .i64 d0, .int .i64 d1, .int .i64 d2, .int .i64 d3, .int .i64 d4, .int .i64 d5, .string sd] := by
  unfold delV
  split
  · exact ⟨_, _, _, _, _, _, _, rfl⟩
  · exact ⟨_, _, _, _, _, _, _, rfl⟩
/-- The message at the place k of the list in block g. -/
def MAt (W : World) (g k : Nat) (m0 m1 m2 m3 m4 m5 : Int) (sm : ByteArray) : Prop := W.cell? ⟨g, k * 7, none⟩ = some (.int .i64 m0) ∧ W.cell? ⟨g, k * 7 + 1, none⟩ = some (.int .i64 m1) ∧ W.cell? ⟨g, k * 7 + 2, none⟩ = some (.int .i64 m2) ∧ W.cell? ⟨g, k * 7 + 3, none⟩ = some (.int .i64 m3) ∧ W.cell? ⟨g, k * 7 + 4, none⟩ = some (.int .i64 m4) ∧ W.cell? ⟨g, k * 7 + 5, none⟩ = some (.int .i64 m5) ∧ W.cell? ⟨g, k * 7 + 6, none⟩ = some (.string sm)
/-- A list of three messages. -/
def Row3 (W : World) (g : Nat) : Prop := g < W.heap.size ∧ ∀ k, k < 3 → ∃ (m0 m1 m2 m3 m4 m5 : Int) (sm : ByteArray), MAt W g k m0 m1 m2 m3 m4 m5 sm
theorem Row3.below {W W' : World} {g : Nat} (h : Row3 W g) (hb : Below W.heap.size W W') : Row3 W' g := by
  refine ⟨Nat.lt_of_lt_of_le h.1 hb.size, fun k hk => ?_⟩
  obtain ⟨m0, m1, m2, m3, m4, m5, sm, h0, h1, h2, h3, h4, h5, h6⟩ := h.2 k hk
  exact ⟨m0, m1, m2, m3, m4, m5, sm, (hb.cell (p := ⟨g, k * 7, none⟩) h.1).trans h0, (hb.cell (p := ⟨g, k * 7 + 1, none⟩) h.1).trans h1, (hb.cell (p := ⟨g, k * 7 + 2, none⟩) h.1).trans h2, (hb.cell (p := ⟨g, k * 7 + 3, none⟩) h.1).trans h3, (hb.cell (p := ⟨g, k * 7 + 4, none⟩) h.1).trans h4, (hb.cell (p := ⟨g, k * 7 + 5, none⟩) h.1).trans h5, (hb.cell (p := ⟨g, k * 7 + 6, none⟩) h.1).trans h6⟩
/-- What is kept while the results are compared. -/
def KR (w : World) (g : Nat) (W : World) : Prop := Below w.heap.size w W ∧ Row3 W g
theorem keepM4 {w W W' : World} {b1 b2 gr : Nat} {p0 p1 p2 p3 p4 p5 p6 : Addr} {y0 y1 y2 y3 y4 y5 y6 u0 u1 u2 u3 u4 u5 u6 t0 t1 t2 t3 t4 t5 t6 : Value} (h : W.cell? p0 = some (y0) ∧ W.cell? p1 = some (y1) ∧ W.cell? p2 = some (y2) ∧ W.cell? p3 = some (y3) ∧ W.cell? p4 = some (y4) ∧ W.cell? p5 = some (y5) ∧ W.cell? p6 = some (y6) ∧ W.cell? ⟨b1, 0, none⟩ = some (u0) ∧ W.cell? ⟨b1, 1, none⟩ = some (u1) ∧ W.cell? ⟨b1, 2, none⟩ = some (u2) ∧ W.cell? ⟨b1, 3, none⟩ = some (u3) ∧ W.cell? ⟨b1, 4, none⟩ = some (u4) ∧ W.cell? ⟨b1, 5, none⟩ = some (u5) ∧ W.cell? ⟨b1, 6, none⟩ = some (u6) ∧ W.cell? ⟨b2, 0, none⟩ = some (t0) ∧ W.cell? ⟨b2, 1, none⟩ = some (t1) ∧ W.cell? ⟨b2, 2, none⟩ = some (t2) ∧ W.cell? ⟨b2, 3, none⟩ = some (t3) ∧ W.cell? ⟨b2, 4, none⟩ = some (t4) ∧ W.cell? ⟨b2, 5, none⟩ = some (t5) ∧ W.cell? ⟨b2, 6, none⟩ = some (t6) ∧ KR w gr W) (hb : Below W.heap.size W W') : W'.cell? p0 = some (y0) ∧ W'.cell? p1 = some (y1) ∧ W'.cell? p2 = some (y2) ∧ W'.cell? p3 = some (y3) ∧ W'.cell? p4 = some (y4) ∧ W'.cell? p5 = some (y5) ∧ W'.cell? p6 = some (y6) ∧ W'.cell? ⟨b1, 0, none⟩ = some (u0) ∧ W'.cell? ⟨b1, 1, none⟩ = some (u1) ∧ W'.cell? ⟨b1, 2, none⟩ = some (u2) ∧ W'.cell? ⟨b1, 3, none⟩ = some (u3) ∧ W'.cell? ⟨b1, 4, none⟩ = some (u4) ∧ W'.cell? ⟨b1, 5, none⟩ = some (u5) ∧ W'.cell? ⟨b1, 6, none⟩ = some (u6) ∧ W'.cell? ⟨b2, 0, none⟩ = some (t0) ∧ W'.cell? ⟨b2, 1, none⟩ = some (t1) ∧ W'.cell? ⟨b2, 2, none⟩ = some (t2) ∧ W'.cell? ⟨b2, 3, none⟩ = some (t3) ∧ W'.cell? ⟨b2, 4, none⟩ = some (t4) ∧ W'.cell? ⟨b2, 5, none⟩ = some (t5) ∧ W'.cell? ⟨b2, 6, none⟩ = some (t6) ∧ KR w gr W' := by
  have k : ∀ {p : Addr} {x : Value}, W.cell? p = some x → W'.cell? p = some x := fun {p x} hx => (hb.cell (p := p) (World.block_lt_of_cell? W _ hx)).trans hx
  obtain ⟨h0, h1, h2, h3, h4, h5, h6, h7, h8, h9, h10, h11, h12, h13, h14, h15, h16, h17, h18, h19, h20, hw⟩ := h
  exact ⟨k h0, k h1, k h2, k h3, k h4, k h5, k h6, k h7, k h8, k h9, k h10, k h11, k h12, k h13, k h14, k h15, k h16, k h17, k h18, k h19, k h20, Below.trans hw.1 (hb.mono (Below.size hw.1)), hw.2.below hb⟩
theorem belowM4 {w W : World} {b1 b2 gr : Nat} {p0 p1 p2 p3 p4 p5 p6 : Addr} {y0 y1 y2 y3 y4 y5 y6 u0 u1 u2 u3 u4 u5 u6 t0 t1 t2 t3 t4 t5 t6 : Value} (h : W.cell? p0 = some (y0) ∧ W.cell? p1 = some (y1) ∧ W.cell? p2 = some (y2) ∧ W.cell? p3 = some (y3) ∧ W.cell? p4 = some (y4) ∧ W.cell? p5 = some (y5) ∧ W.cell? p6 = some (y6) ∧ W.cell? ⟨b1, 0, none⟩ = some (u0) ∧ W.cell? ⟨b1, 1, none⟩ = some (u1) ∧ W.cell? ⟨b1, 2, none⟩ = some (u2) ∧ W.cell? ⟨b1, 3, none⟩ = some (u3) ∧ W.cell? ⟨b1, 4, none⟩ = some (u4) ∧ W.cell? ⟨b1, 5, none⟩ = some (u5) ∧ W.cell? ⟨b1, 6, none⟩ = some (u6) ∧ W.cell? ⟨b2, 0, none⟩ = some (t0) ∧ W.cell? ⟨b2, 1, none⟩ = some (t1) ∧ W.cell? ⟨b2, 2, none⟩ = some (t2) ∧ W.cell? ⟨b2, 3, none⟩ = some (t3) ∧ W.cell? ⟨b2, 4, none⟩ = some (t4) ∧ W.cell? ⟨b2, 5, none⟩ = some (t5) ∧ W.cell? ⟨b2, 6, none⟩ = some (t6) ∧ KR w gr W) : Below w.heap.size w W ∧ Row3 W gr := by
  obtain ⟨h0, h1, h2, h3, h4, h5, h6, h7, h8, h9, h10, h11, h12, h13, h14, h15, h16, h17, h18, h19, h20, hw⟩ := h
  exact hw
theorem Row3.new (w : World) (a0 : Int) (a1 : Int) (a2 : Int) (a3 : Int) (a4 : Int) (a5 : Int) (a6 : Int) (a7 : Int) (a8 : Int) (a9 : Int) (a10 : Int) (a11 : Int) (a12 : Int) (a13 : Int) (a14 : Int) (a15 : Int) (a16 : Int) (a17 : Int) (s0 s1 s2 : ByteArray) : Row3 (w.alloc (.cells #[.int .i64 a0, .int .i64 a1, .int .i64 a2, .int .i64 a3, .int .i64 a4, .int .i64 a5, .string s0, .int .i64 a6, .int .i64 a7, .int .i64 a8, .int .i64 a9, .int .i64 a10, .int .i64 a11, .string s1, .int .i64 a12, .int .i64 a13, .int .i64 a14, .int .i64 a15, .int .i64 a16, .int .i64 a17, .string s2] 75)) w.heap.size := by
  refine ⟨by simp, fun k hk => ?_⟩
  rcases (by omega : k = 0 ∨ k = 1 ∨ k = 2) with rfl | rfl | rfl
  · exact ⟨a0, a1, a2, a3, a4, a5, s0, by simp [World.cell?_alloc_new], by simp [World.cell?_alloc_new], by simp [World.cell?_alloc_new], by simp [World.cell?_alloc_new], by simp [World.cell?_alloc_new], by simp [World.cell?_alloc_new], by simp [World.cell?_alloc_new]⟩
  · exact ⟨a6, a7, a8, a9, a10, a11, s1, by simp [World.cell?_alloc_new], by simp [World.cell?_alloc_new], by simp [World.cell?_alloc_new], by simp [World.cell?_alloc_new], by simp [World.cell?_alloc_new], by simp [World.cell?_alloc_new], by simp [World.cell?_alloc_new]⟩
  · exact ⟨a12, a13, a14, a15, a16, a17, s2, by simp [World.cell?_alloc_new], by simp [World.cell?_alloc_new], by simp [World.cell?_alloc_new], by simp [World.cell?_alloc_new], by simp [World.cell?_alloc_new], by simp [World.cell?_alloc_new], by simp [World.cell?_alloc_new]⟩
/-- While the list is built. -/
def KL (w : World) (bs : Nat) (x00 x01 x02 x03 x04 x05 : Int) (s0 : ByteArray) (W : World) : Prop := Src W bs ∧ Box7 W w.heap.size x00 x01 x02 x03 x04 x05 s0 ∧ Below w.heap.size w W ∧ w.heap.size < bs
theorem KL.oth {w W W' : World} {bs : Nat} {x00 x01 x02 x03 x04 x05 : Int} {s0 : ByteArray} (h : KL w bs x00 x01 x02 x03 x04 x05 s0 W) (hs : Src W' bs) (ho : Oth W.heap.size bs W W') : KL w bs x00 x01 x02 x03 x04 x05 s0 W' :=
  ⟨hs, h.2.1.oth ho h.2.1.1 (by have := h.2.2.2; omega), h.2.2.1.trans ((ho.mono h.2.2.1.size).below (Nat.le_refl _) (Nat.le_of_lt h.2.2.2)), h.2.2.2⟩
set_option maxHeartbeats 16000000 in
set_option maxRecDepth 20000 in
theorem messageChanges_walk (x00 x01 x02 x03 x04 x05 : Int) (s0 : ByteArray) (A1 : Option Addr) (n1 c1 : Nat) (l1 : List Int) (a2 : Int) (a3 : Int) (w : World) (_w00 : -9223372036854775808 ≤ x00 ∧ x00 ≤ 9223372036854775807) (_w01 : -9223372036854775808 ≤ x01 ∧ x01 ≤ 9223372036854775807) (_w02 : -9223372036854775808 ≤ x02 ∧ x02 ≤ 9223372036854775807) (_w03 : -9223372036854775808 ≤ x03 ∧ x03 ≤ 9223372036854775807) (_w04 : -9223372036854775808 ≤ x04 ∧ x04 ≤ 9223372036854775807) (_w05 : -9223372036854775808 ≤ x05 ∧ x05 ≤ 9223372036854775807) (w1 : Reads w w.heap.size A1 n1 (ivs l1)) (k1 : n1 ≤ c1) (m1 : c1 ≤ maxLen) (b1 : ∀ x ∈ l1, -9223372036854775808 ≤ x ∧ x ≤ 9223372036854775807) (_w2 : -9223372036854775808 ≤ a2 ∧ a2 ≤ 9223372036854775807) (_w3 : -9223372036854775808 ≤ a3 ∧ a3 ≤ 9223372036854775807) :
    Calls Try.prog 23 #[.agg #[.int .i64 x00, .int .i64 x01, .int .i64 x02, .int .i64 x03, .int .i64 x04, .int .i64 x05, .string s0], .slice A1 n1 c1, .int .i64 a2, .int .i64 a3] w fun e w' => e = .returned (.bool true) ∧ Below w.heap.size w w' := by
  clear _w00 _w01 _w02 _w03 _w04 _w05 _w2 _w3
  have BB := hide b1
  clear b1
  have W0 : Below w.heap.size w (w.alloc (.cells #[.int .i64 x00, .int .i64 x01, .int .i64 x02, .int .i64 x03, .int .i64 x04, .int .i64 x05, .string s0] 75)) := (Below.refl _ _).alloc (Nat.le_refl _) _
  have X0 := Box7.new w x00 x01 x02 x03 x04 x05 s0 75
  have hr := (w1.alloc (Nat.le_refl _) (.cells #[.int .i64 x00, .int .i64 x01, .int .i64 x02, .int .i64 x03, .int .i64 x04, .int .i64 x05, .string s0] 75)).more (Nat.le_of_lt X0.1)
  go_enter Try.func23, Try.ntmps23
  go_wp2_with fail
  refine (bnew_any _ _ _ _ _ hr k1 m1 BB.out).mono ?_
  rintro e v1 ⟨rfl, S, hb⟩
  have P : KL w _ x00 x01 x02 x03 x04 x05 s0 v1 := ⟨S, X0.below hb X0.1, W0.trans (hb.mono W0.size), X0.1⟩
  clear hb hr w1 k1 m1 BB W0 X0 S
  generalize (w.alloc (.cells #[.int .i64 x00, .int .i64 x01, .int .i64 x02, .int .i64 x03, .int .i64 x04, .int .i64 x05, .string s0] 75)).heap.size = bs at *
  go_upto_region 2 with fail
  have P1 : KL w bs x00 x01 x02 x03 x04 x05 s0 v1.drew := ⟨P.1.drew, P.2.1, P.2.2.1.drew, P.2.2.2⟩
  obtain ⟨_, XM, _, _⟩ := id P1
  obtain ⟨_, q0, q1, q2, q3, q4, q5, q6⟩ := XM
  clear P
  go_cut [10] (fun v wy => ∃ g z, v = .slice (some ⟨g, 0, none⟩) 3 3 ∧ wy = z ∧ Hid (Row3 z g) ∧ Hid (Below w.heap.size w z))
  case first =>
    go_region_with (first
      | (go_at_call 79; refine (bodd_any bs _ _ _ _ P1.1).mono ?_; rintro e w' ⟨o0, o1, o2, o3, o4, o5, so, rfl, hs5, ho5⟩; have P2 := P1.oth hs5 ho5; clear hs5 ho5; obtain ⟨_, XM, _, _⟩ := id P2; obtain ⟨_, r0, r1, r2, r3, r4, r5, r6⟩ := XM)
      | (go_at_call 80; refine (bmsg_any bs _ _ _ _ P2.1).mono ?_; rintro e w' ⟨e2, e3, e4, e5, se, rfl, _, _, _, _, _, _, _, _, _, hs5, ho5⟩; have P3 := P2.oth hs5 ho5; clear hs5 ho5; obtain ⟨_, XM, _, _⟩ := id P3; obtain ⟨_, t0, t1, t2, t3, t4, t5, t6⟩ := XM))
    all_goals (go_wp2_with fail; go_meet; exact ⟨_, _, rfl, rfl, hide (Row3.new _ _ _ _ _ _ _ _ _ _ _ _ _ _ _ _ _ _ _ _ _ _), hide (P3.2.2.1.alloc P3.2.2.1.size _)⟩)
  obtain ⟨g, z, rfl, hz, HR, HW⟩ := hcut
  subst hz
  clear P1 q0 q1 q2 q3 q4 q5 q6
  go_wp2_with fail
  go_loopw [11] (fun i wr => ∃ k : Nat, k ≤ 3 ∧ i = .int .i64 k ∧ Hid (Row3 wr g) ∧ Hid (Below w.heap.size w wr)) (fun i _ => 3 - (intOf i).toNat)
  case atStart => exact ⟨0, Nat.zero_le _, rfl, HR, HW⟩
  case round =>
    clear HR HW
    obtain ⟨k, hk, rfl, HR, HW⟩ := hrel
    by_cases hlt : k < 3
    · have hki : (k : Int) < 3 := by omega
      have hk0 : (0 : Int) ≤ (k : Int) := by omega
      obtain ⟨m0, m1, m2, m3, m4, m5, sm, hm⟩ := HR.out.2 k hlt
      obtain ⟨d0, d1, d2, d3, d4, d5, sd, hd⟩ := delV_agg m0 m1 m2 m3 m4 m5 sm
      generalize hz : delE m0 m1 m2 m3 m4 m5 sm.size = zz
      have HD := hide hd
      have HZ := hide hz
      have HM := hide hm
      clear hd hz hm
      obtain ⟨q0, q1, q2, q3, q4, q5, q6⟩ := HM.out
      go_wp2_with fail
      refine (mdel_any _ _ _ _ _ _ _ _).mono ?_
      rintro e w5 ⟨he, hb⟩
      rw [HD.out, HZ.out] at he
      subst he
      clear q0 q1 q2 q3 q4 q5 q6
      have W5 := HW.out.trans (hb.mono HW.out.size)
      have R5 := HR.out.below hb
      have M5 : MAt w5 g k m0 m1 m2 m3 m4 m5 sm := by
        obtain ⟨h0, h1, h2, h3, h4, h5, h6⟩ := HM.out
        exact ⟨(hb.cell (p := ⟨g, k * 7, none⟩) HR.out.1).trans h0, (hb.cell (p := ⟨g, k * 7 + 1, none⟩) HR.out.1).trans h1, (hb.cell (p := ⟨g, k * 7 + 2, none⟩) HR.out.1).trans h2, (hb.cell (p := ⟨g, k * 7 + 3, none⟩) HR.out.1).trans h3, (hb.cell (p := ⟨g, k * 7 + 4, none⟩) HR.out.1).trans h4, (hb.cell (p := ⟨g, k * 7 + 5, none⟩) HR.out.1).trans h5, (hb.cell (p := ⟨g, k * 7 + 6, none⟩) HR.out.1).trans h6⟩
      clear hb HM HR HW
      have Bn1 := Box7.new w5 d0 d1 d2 d3 d4 d5 sd 75
      have ba := (Below.refl w5.heap.size w5).alloc (Nat.le_refl _) (.cells #[.int .i64 d0, .int .i64 d1, .int .i64 d2, .int .i64 d3, .int .i64 d4, .int .i64 d5, .string sd] 75)
      have W6 := W5.trans (ba.mono W5.size)
      have R6 := R5.below ba
      have M6 : MAt (w5.alloc (.cells #[.int .i64 d0, .int .i64 d1, .int .i64 d2, .int .i64 d3, .int .i64 d4, .int .i64 d5, .string sd] 75)) g k m0 m1 m2 m3 m4 m5 sm := by
        obtain ⟨h0, h1, h2, h3, h4, h5, h6⟩ := M5
        exact ⟨(ba.cell (p := ⟨g, k * 7, none⟩) R5.1).trans h0, (ba.cell (p := ⟨g, k * 7 + 1, none⟩) R5.1).trans h1, (ba.cell (p := ⟨g, k * 7 + 2, none⟩) R5.1).trans h2, (ba.cell (p := ⟨g, k * 7 + 3, none⟩) R5.1).trans h3, (ba.cell (p := ⟨g, k * 7 + 4, none⟩) R5.1).trans h4, (ba.cell (p := ⟨g, k * 7 + 5, none⟩) R5.1).trans h5, (ba.cell (p := ⟨g, k * 7 + 6, none⟩) R5.1).trans h6⟩
      clear M5 W5 R5 ba
      obtain ⟨q0, q1, q2, q3, q4, q5, q6⟩ := id M6
      go_wp2_with fail
      generalize w5.heap.size = g1 at *
      generalize w5.alloc (.cells #[.int .i64 d0, .int .i64 d1, .int .i64 d2, .int .i64 d3, .int .i64 d4, .int .i64 d5, .string sd] 75) = w6 at *
      refine (rmdel_any _ _ _ _ _ _ _ _).mono ?_
      rintro e w7 ⟨he, hb⟩
      rw [HD.out, HZ.out] at he
      subst he
      clear q0 q1 q2 q3 q4 q5 q6
      have W7 := W6.trans (hb.mono W6.size)
      have R7 := R6.below hb
      have B7 := Bn1.below hb Bn1.1
      have M7 : MAt w7 g k m0 m1 m2 m3 m4 m5 sm := by
        obtain ⟨h0, h1, h2, h3, h4, h5, h6⟩ := M6
        exact ⟨(hb.cell (p := ⟨g, k * 7, none⟩) R6.1).trans h0, (hb.cell (p := ⟨g, k * 7 + 1, none⟩) R6.1).trans h1, (hb.cell (p := ⟨g, k * 7 + 2, none⟩) R6.1).trans h2, (hb.cell (p := ⟨g, k * 7 + 3, none⟩) R6.1).trans h3, (hb.cell (p := ⟨g, k * 7 + 4, none⟩) R6.1).trans h4, (hb.cell (p := ⟨g, k * 7 + 5, none⟩) R6.1).trans h5, (hb.cell (p := ⟨g, k * 7 + 6, none⟩) R6.1).trans h6⟩
      clear hb M6 W6 R6 Bn1
      have Bn2 := Box7.new w7 d0 d1 d2 d3 d4 d5 sd 75
      have ba := (Below.refl w7.heap.size w7).alloc (Nat.le_refl _) (.cells #[.int .i64 d0, .int .i64 d1, .int .i64 d2, .int .i64 d3, .int .i64 d4, .int .i64 d5, .string sd] 75)
      have W8 := W7.trans (ba.mono W7.size)
      have R8 := R7.below ba
      have B8 := B7.below ba B7.1
      have M8 : MAt (w7.alloc (.cells #[.int .i64 d0, .int .i64 d1, .int .i64 d2, .int .i64 d3, .int .i64 d4, .int .i64 d5, .string sd] 75)) g k m0 m1 m2 m3 m4 m5 sm := by
        obtain ⟨h0, h1, h2, h3, h4, h5, h6⟩ := M7
        exact ⟨(ba.cell (p := ⟨g, k * 7, none⟩) R7.1).trans h0, (ba.cell (p := ⟨g, k * 7 + 1, none⟩) R7.1).trans h1, (ba.cell (p := ⟨g, k * 7 + 2, none⟩) R7.1).trans h2, (ba.cell (p := ⟨g, k * 7 + 3, none⟩) R7.1).trans h3, (ba.cell (p := ⟨g, k * 7 + 4, none⟩) R7.1).trans h4, (ba.cell (p := ⟨g, k * 7 + 5, none⟩) R7.1).trans h5, (ba.cell (p := ⟨g, k * 7 + 6, none⟩) R7.1).trans h6⟩
      clear M7 W7 R7 B7 ba
      go_wp2_with fail
      generalize w7.heap.size = g2 at *
      generalize w7.alloc (.cells #[.int .i64 d0, .int .i64 d1, .int .i64 d2, .int .i64 d3, .int .i64 d4, .int .i64 d5, .string sd] 75) = w8 at *
      have K0 : KR w g w8.drew := ⟨W8.drew, R8⟩
      obtain ⟨q0, q1, q2, q3, q4, q5, q6⟩ := M8
      obtain ⟨_, r0, r1, r2, r3, r4, r5, r6⟩ := B8
      obtain ⟨_, t0, t1, t2, t3, t4, t5, t6⟩ := Bn2
      clear W8 R8
      go_region_held3 (fun w' => w'.cell? ⟨g, k * 7, none⟩ = some (.int .i64 m0) ∧ w'.cell? ⟨g, k * 7 + 1, none⟩ = some (.int .i64 m1) ∧ w'.cell? ⟨g, k * 7 + 2, none⟩ = some (.int .i64 m2) ∧ w'.cell? ⟨g, k * 7 + 3, none⟩ = some (.int .i64 m3) ∧ w'.cell? ⟨g, k * 7 + 4, none⟩ = some (.int .i64 m4) ∧ w'.cell? ⟨g, k * 7 + 5, none⟩ = some (.int .i64 m5) ∧ w'.cell? ⟨g, k * 7 + 6, none⟩ = some (.string sm) ∧ w'.cell? ⟨g1, 0, none⟩ = some (.int .i64 d0) ∧ w'.cell? ⟨g1, 1, none⟩ = some (.int .i64 d1) ∧ w'.cell? ⟨g1, 2, none⟩ = some (.int .i64 d2) ∧ w'.cell? ⟨g1, 3, none⟩ = some (.int .i64 d3) ∧ w'.cell? ⟨g1, 4, none⟩ = some (.int .i64 d4) ∧ w'.cell? ⟨g1, 5, none⟩ = some (.int .i64 d5) ∧ w'.cell? ⟨g1, 6, none⟩ = some (.string sd) ∧ w'.cell? ⟨g2, 0, none⟩ = some (.int .i64 d0) ∧ w'.cell? ⟨g2, 1, none⟩ = some (.int .i64 d1) ∧ w'.cell? ⟨g2, 2, none⟩ = some (.int .i64 d2) ∧ w'.cell? ⟨g2, 3, none⟩ = some (.int .i64 d3) ∧ w'.cell? ⟨g2, 4, none⟩ = some (.int .i64 d4) ∧ w'.cell? ⟨g2, 5, none⟩ = some (.int .i64 d5) ∧ w'.cell? ⟨g2, 6, none⟩ = some (.string sd) ∧ KR w g w')
        (first | exact ⟨q0, q1, q2, q3, q4, q5, q6, r0, r1, r2, r3, r4, r5, r6, t0, t1, t2, t3, t4, t5, t6, K0⟩ | exact keepM4 (by assumption) (by assumption) | assumption)
        (first
          | (go_at_call 83; refine (mrev_any _ _ _ _ _ _ _ _).mono ?_; rintro e w' ⟨rfl, hb⟩)
          | (go_at_call 84; refine (rmrev_any _ _ _ _ _ _ _ _).mono ?_; rintro e w' ⟨rfl, hb⟩)
          | (go_at_call 85; refine (mrer_any _ _ _ _ _ _ _ _ _ _).mono ?_; rintro e w' ⟨rfl, hb⟩)
          | (go_at_call 86; refine (rmrer_any _ _ _ _ _ _ _ _ _ _).mono ?_; rintro e w' ⟨rfl, hb⟩))
      all_goals
        rename_i hS
        have HS := hide (belowM4 hS)
        clear hS q0 q1 q2 q3 q4 q5 q6 r0 r1 r2 r3 r4 r5 r6 t0 t1 t2 t3 t4 t5 t6 K0
        go_wp2_with fail
        go_roundw
        case rel => exact ⟨k + 1, by omega, by go_num, hide HS.out.2, hide HS.out.1⟩
        case measure => simp [intOf]; omega
    · obtain rfl : k = 3 := by omega
      go_wp2_with (first
        | (go_at_call 71; refine (mawake_any _).mono ?_; rintro e w' ⟨rfl, hb⟩))
      go_ret
      exact ⟨rfl, HW.out.trans (hb.mono HW.out.size)⟩
end Go.Proofs.Ytaoiekcoiooghaa
