/- The builders' Directory. Condition: Apply's contract. -/
import Derived.Test.YtaoiekcoiooghaaDr8
namespace Go.Proofs.Ytaoiekcoiooghaa
open Go.RowKit
theorem DSt.le {w W : World} {b n i k D : Nat} (h : DSt w b n i D W) (hk : k ≤ i) : DSt w b n k D W := by
  obtain ⟨y0, y1, y2, h1, h2, h3, h4, h5, h6, h7, h8, h9⟩ := h
  obtain ⟨v, g, c, f, cf, L, F, d1, d2, d3, ⟨a1, a2, a3, a4⟩, d5⟩ := h5
  exact ⟨y0, y1, y2, h1, h2, h3, h4, ⟨v, g, c, f, cf, L, F, d1, d2, d3, ⟨by omega, a2, by omega, a4⟩, d5⟩, h6, h7, h8, h9⟩
/-- The state with the directory named. -/
def DFix (w : World) (b n i D : Nat) (v : Int) (g m c f n' cf : Nat) (L : List Sp) (F : List Int) (W : World) : Prop :=
  Box3 W w.heap.size (.int .i64 0) (.slice none 0 0) (.slice none 0 0) ∧ Free W w.heap.size ∧ Box3 W D (.int .i64 v) (.slice (some ⟨g, 0, none⟩) m c) (.slice (some ⟨f, 0, none⟩) n' cf) ∧ Free W D ∧
  (GoodD L F ∧ L.length = m ∧ F.length = n' ∧ n' = n ∧ (m + i ≤ 14 ∧ 1 ≤ v ∧ v + (i : Int) ≤ 9 ∧ m ≤ c ∧ c ≤ maxLen ∧ n' ≤ cf ∧ cf ≤ maxLen) ∧ w.heap.size < g ∧ w.heap.size < f ∧ g ≠ D ∧ f ≠ D ∧ w.heap.size < D ∧ b < w.heap.size) ∧ RowP L g W ∧ RowN F f W ∧ Src W b ∧ Oth w.heap.size b w W
theorem DSt.fix {w W : World} {b n i D : Nat} (h : DSt w b n i D W) : ∃ v g m c f n' cf L F, DFix w b n i D v g m c f n' cf L F W := by
  obtain ⟨y0, y1, y2, h1, h2, h3, h4, ⟨v, g, c, f, cf, L, F, ⟨rfl, rfl, rfl⟩, d2, d3, d4, d5, d6, d7, d8, d9, d10⟩, h6, h7, h8, h9⟩ := h
  exact ⟨v, g, L.length, c, f, F.length, cf, L, F, h1, h2, h3, h4, ⟨d2, rfl, rfl, d3, d4, d7, d8, d9, d10, h6, h8⟩, d5, d6, h7, h9⟩
section
variable {w W W' : World} {b n i D : Nat} {v : Int} {g m c f n' cf : Nat} {L : List Sp} {F : List Int}
theorem DFix.dst (h : DFix w b n i D v g m c f n' cf L F W) : DSt w b n i D W := by
  obtain ⟨h1, h2, h3, h4, ⟨a1, rfl, rfl, a2, a3, a4, a5, a6, a7, a8, a9⟩, h6, h7, h8, h9⟩ := h
  exact ⟨_, _, _, h1, h2, h3, h4, ⟨v, g, c, f, cf, L, F, ⟨rfl, rfl, rfl⟩, a1, a2, a3, h6, h7, a4, a5, a6, a7⟩, a8, h8, a9, h9⟩
theorem DFix.oth (h : DFix w b n i D v g m c f n' cf L F W) (ho : Oth W.heap.size b W W') (hs : Src W' b) : DFix w b n i D v g m c f n' cf L F W' := by
  obtain ⟨h1, h2, h3, h4, h5, h6, h7, h8, h9⟩ := h
  have h5' := h5
  obtain ⟨a1, a2, a2', a3, a4, a5, a6, a7, a8, a9, a10⟩ := h5
  exact ⟨h1.oth ho h1.1 (by omega), free_oth h2 ho h1.1 (by omega), h3.oth ho h3.1 (by omega), free_oth h4 ho h3.1 (by omega), h5', h6.oth ho h6.1 (by omega), h7.oth ho h7.1 (by omega), hs, h9.trans (ho.mono h9.size)⟩
theorem DFix.next (h : DFix w b n i D v g m c f n' cf L F W) (hb : Below W.heap.size W W') : DFix w b n i D v g m c f n' cf L F W' := h.oth (oth_of hb b) (h.2.2.2.2.2.2.2.1.below hb h.2.2.2.2.2.2.2.1.1)
theorem DFix.drew (h : DFix w b n i D v g m c f n' cf L F W) : DFix w b n i D v g m c f n' cf L F W.drew := ⟨h.1, h.2.1, h.2.2.1, h.2.2.2.1, h.2.2.2.2.1, h.2.2.2.2.2.1, h.2.2.2.2.2.2.1, h.2.2.2.2.2.2.2.1, h.2.2.2.2.2.2.2.2.drew⟩
theorem DFix.src (h : DFix w b n i D v g m c f n' cf L F W) : Src W b := h.2.2.2.2.2.2.2.1
theorem DFix.alloc (h : DFix w b n i D v g m c f n' cf L F W) (o : Obj) : DFix w b n i D v g m c f n' cf L F (W.alloc o) := h.next ((Below.refl _ _).alloc (Nat.le_refl _) o)
theorem DF3 (h : DFix w b n i D v g m c f n' cf L F W) : W.cell? ⟨D, 0, none⟩ = some (.int .i64 v) ∧ W.cell? ⟨D, 1, none⟩ = some (.slice (some ⟨g, 0, none⟩) m c) ∧ W.cell? ⟨D, 2, none⟩ = some (.slice (some ⟨f, 0, none⟩) n' cf) ∧ DFix w b n i D v g m c f n' cf L F W := ⟨h.2.2.1.2.1, h.2.2.1.2.2.1, h.2.2.1.2.2.2, h⟩
theorem FD3 {p0 p1 p2 : Addr} {x0 x1 x2 : Value} (h : W.cell? p0 = some x0 ∧ W.cell? p1 = some x1 ∧ W.cell? p2 = some x2 ∧ DFix w b n i D v g m c f n' cf L F W) : DFix w b n i D v g m c f n' cf L F W := h.2.2.2
/-- What Apply gives Directory. -/
def RetAD (w : World) (n i : Nat) (W : World) (e : Ending) (W' : World) : Prop := ∃ (a : Int) (A1 A2 : Option Addr) (m1 c1 m2 c2 : Nat) (z : Int), e = .returned (.tuple #[.agg #[.int .i64 a, .slice A1 m1 c1, .slice A2 m2 c2], .int .i64 z]) ∧ Hid (z = 0 → ∀ D', D' < W.heap.size → DirC w n i D' (.int .i64 a) (.slice A1 m1 c1) (.slice A2 m2 c2) W') ∧ Below W.heap.size W W'
theorem dapply_dir (HAp : ApplyC) (h : DFix w b n (i + 1) D v g m c f n' cf L F W) {kd fr tt md : Int} (k1 : 1 ≤ kd) (k2 : kd ≤ 2) (f1 : 0 ≤ fr) (f2 : fr < (n : Int)) (t1 : 0 ≤ tt) (t2 : tt < (n : Int)) (m1 : 0 ≤ md) (m2 : md ≤ 65534) :
    Calls Try.prog 94 #[.agg #[.int .i64 v, .slice (some ⟨g, 0, none⟩) m c, .slice (some ⟨f, 0, none⟩) n' cf], .agg #[.int .i64 kd, .int .i64 fr, .int .i64 tt, .int .i64 md]] W (RetAD w n i W) := by
  obtain ⟨h1, h2, h3, h4, ⟨a1, a2, a2', rfl, ⟨b1, b2, b3, b4, b5, b6, b7⟩, a5, a6, a7, a8, a9, a10⟩, h6, h7, h8, h9⟩ := h
  refine (HAp L F a1 m n' a2 a2' (by omega) g c f cf b4 b5 v ⟨b2, by omega⟩ kd fr tt md (by omega) ⟨f1, f2⟩ ⟨t1, t2⟩ ⟨m1, m2⟩ W h6 h7).mono ?_
  rintro e W' (⟨z, hz, rfl, hb⟩ | ⟨g', c', f', cf', L', F', rfl, q1, q2, q3, q4, q5, q6, q7, q8, q9, q10, q11, hb⟩)
  · exact ⟨_, _, _, _, _, _, _, z, rfl, hide (fun e => absurd e hz), hb⟩
  · have hs := h9.size
    have hD := h3.1
    exact ⟨_, _, _, _, _, _, _, 0, rfl, hide (fun _ D' hD' => ⟨v + 1, g', c', f', cf', L', F', ⟨rfl, rfl, rfl⟩, q1, q2, ⟨by omega, by omega, by omega, q4, q5, q6, q7⟩, q8, q9, by omega, by omega, by omega, by omega⟩), hb⟩
end
theorem dirs_set {w W : World} {n i B X : Nat} {a : Int} {A1 A2 : Option Addr} {m1 c1 m2 c2 : Nat} (h : ∀ D', D' < B → DirC w n i D' (.int .i64 a) (.slice A1 m1 c1) (.slice A2 m2 c2) W) (hX : X < B) (j : Nat) (u : Value) :
    ∀ D', D' < B → DirC w n i D' (.int .i64 a) (.slice A1 m1 c1) (.slice A2 m2 c2) (W.setCell ⟨X, j, none⟩ u) := by
  intro D' hD'
  obtain ⟨v, g, c, f, cf, L, F, ⟨e0, e1, e2⟩, h2, h3, h4, h5, h6, h7, h8, h9, h10⟩ := h D' hD'
  obtain ⟨v', g', c', f', cf', L', F', ⟨e0', e1', e2'⟩, _, _, _, _, _, _, _, k9, k10⟩ := h X hX
  have eg : g' = g := by
    rw [e1'] at e1
    injection e1 with e1 _ _
    injection e1 with e1
    injection e1
  have ef : f' = f := by
    rw [e2'] at e2
    injection e2 with e2 _ _
    injection e2 with e2
    injection e2
  subst eg
  subst ef
  exact ⟨v, g', c, f', cf, L, F, ⟨e0, e1, e2⟩, h2, h3, h4, h5.set (by simpa using k9) u, h6.set (by simpa using k10) u, h7, h8, h9, h10⟩
theorem DFix.set {w W : World} {b n i D : Nat} {v : Int} {g m c f n' cf : Nat} {L : List Sp} {F : List Int} (h : DFix w b n i D v g m c f n' cf L F W) {X : Nat} (hX : D < X) (hg : g < X) (hf : f < X) (j : Nat) (u : Value) : DFix w b n i D v g m c f n' cf L F (W.setCell ⟨X, j, none⟩ u) := by
  obtain ⟨h1, h2, h3, h4, h5, h6, h7, h8, h9⟩ := h
  have h5' := h5
  obtain ⟨a1, a2, a2', a3, a4, a5, a6, a7, a8, a9, a10⟩ := h5
  exact ⟨h1.far (by simp; omega) _, h2.set _ _, h3.far (by simp; omega) _, h4.set _ _, h5', h6.set (by simp; omega) _, h7.set (by simp; omega) _, h8.set (by simp; omega) _, h9.setCell (.inr (by simp; omega)) _⟩
theorem DFix.set3 {w W : World} {b n i D : Nat} {v : Int} {g m c f n' cf : Nat} {L : List Sp} {F : List Int} (h : DFix w b n i D v g m c f n' cf L F W) {X : Nat} (hX : D < X ∧ g < X ∧ f < X) (u0 u1 u2 : Value) : DFix w b n i D v g m c f n' cf L F (((W.setCell ⟨X, 0, none⟩ u0).setCell ⟨X, 1, none⟩ u1).setCell ⟨X, 2, none⟩ u2) :=
  ((h.set hX.1 hX.2.1 hX.2.2 0 u0).set hX.1 hX.2.1 hX.2.2 1 u1).set hX.1 hX.2.1 hX.2.2 2 u2
theorem DFix.big {w W : World} {b n i D : Nat} {v : Int} {g m c f n' cf : Nat} {L : List Sp} {F : List Int} (h : DFix w b n i D v g m c f n' cf L F W) : D < W.heap.size ∧ g < W.heap.size ∧ f < W.heap.size := ⟨h.2.2.1.1, h.2.2.2.2.2.1.1, h.2.2.2.2.2.2.1.1⟩
theorem DFix.bl {w W : World} {b n i D : Nat} {v : Int} {g m c f n' cf : Nat} {L : List Sp} {F : List Int} (h : DFix w b n i D v g m c f n' cf L F W) : b < W.heap.size := h.2.2.2.2.2.2.2.1.1
theorem Box3.put3 {W : World} {X : Nat} {a0 a1 a2 : Value} (h : Box3 W X a0 a1 a2) (u0 u1 u2 : Value) : Box3 (((W.setCell ⟨X, 0, none⟩ u0).setCell ⟨X, 1, none⟩ u1).setCell ⟨X, 2, none⟩ u2) X u0 u1 u2 := by
  obtain ⟨x3, x0, x1, x2⟩ := h
  exact ⟨by simpa using x3, by simp [go_sem, x0], by simp [go_sem, x1], by simp [go_sem, x2]⟩
theorem dirs_set3 {w W : World} {n i B X : Nat} {a : Int} {A1 A2 : Option Addr} {m1 c1 m2 c2 : Nat} (h : ∀ D', D' < B → DirC w n i D' (.int .i64 a) (.slice A1 m1 c1) (.slice A2 m2 c2) W) (hX : X < B) (u0 u1 u2 : Value) :
    ∀ D', D' < B → DirC w n i D' (.int .i64 a) (.slice A1 m1 c1) (.slice A2 m2 c2) (((W.setCell ⟨X, 0, none⟩ u0).setCell ⟨X, 1, none⟩ u1).setCell ⟨X, 2, none⟩ u2) :=
  dirs_set (dirs_set (dirs_set h hX 0 u0) hX 1 u1) hX 2 u2
set_option maxHeartbeats 8000000 in
set_option maxRecDepth 20000 in
theorem ddir_any (HAp : ApplyC) (b : Nat) (w : World) (hs : Src w b) : Calls Try.prog 38 #[.pointer (some ⟨b, 0, none⟩)] w (RetDir b w) := by
  have hbw := hs.1
  have S0 := hs.alloc (.cells #[.int .i64 0, .slice none 0 0, .slice none 0 0] 40)
  have O0 := (Oth.refl w.heap.size b w).alloc (Nat.le_refl _) (.cells #[.int .i64 0, .slice none 0 0, .slice none 0 0] 40)
  have X0 := Box3.new w (.int .i64 0) (.slice none 0 0) (.slice none 0 0) 40
  have F0 := Free.new w #[.int .i64 0, .slice none 0 0, .slice none 0 0] 40
  clear hs
  go_enter Try.func38, Try.ntmps38
  go_wp2_with fail
  refine (brange_any b 1 6 _ S0 (by decide) (by decide) (by decide) (by decide)).mono ?_
  rintro e w1 ⟨sl, k1, k2, rfl, S1, ho⟩
  obtain ⟨n, rfl⟩ : ∃ n : Nat, sl = (n : Int) := ⟨sl.toNat, by omega⟩
  have O1 := O0.trans (ho.mono O0.size)
  have X1 := X0.oth ho X0.1 (by omega)
  have F1 := free_oth F0 ho X0.1 (by omega)
  have HS := hide S1
  clear ho O0 X0 F0 S0 S1
  go_wp2_with fail
  refine (brange_any b 1 (n : Int) _ HS.out k1 (by decide) (by omega) (by omega)).mono ?_
  rintro e w2 ⟨lv, l1, l2, rfl, S2, ho⟩
  obtain ⟨live, rfl⟩ : ∃ n : Nat, lv = (n : Int) := ⟨lv.toNat, by omega⟩
  have O2 := O1.trans (ho.mono O1.size)
  have X2 := X1.oth ho X1.1 (by omega)
  have F2 := free_oth F1 ho X1.1 (by omega)
  clear ho O1 X1 F1 HS
  have HS := hide S2
  clear S2
  go_wp2_with fail
  refine (dnew_any n live (by omega) (by omega) (by omega) _).mono ?_
  rintro e w3 ⟨v, g, c, f, cf, L, F, rfl, hG, hF, hL, hc1, hc2, hc3, hc4, rfl, hr, hf, hgb, hfb, hb⟩
  have O3 := O2.trans (oth_of (hb.mono O2.size) b)
  have X3 := X2.below hb X2.1
  have F3 := F2.below hb X2.1
  have S3 := HS.out.below hb HS.out.1
  have hw2 : w.heap.size < w2.heap.size := X2.1
  have hD : w.heap.size < w3.heap.size := X3.1
  have D3 : DSt w b n 8 w3.heap.size (w3.alloc (.cells #[.int .i64 1, .slice (some ⟨g, 0, none⟩) L.length c, .slice (some ⟨f, 0, none⟩) F.length cf] 40)) := by
    have ba := (Below.refl w3.heap.size w3).alloc (Nat.le_refl _) (.cells #[.int .i64 1, .slice (some ⟨g, 0, none⟩) L.length c, .slice (some ⟨f, 0, none⟩) F.length cf] 40)
    exact ⟨_, _, _, X3.below ba X3.1, F3.below ba X3.1, Box3.new w3 _ _ _ 40, Free.new w3 _ 40, ⟨1, g, c, f, cf, L, F, ⟨rfl, rfl, rfl⟩, hG, hF, ⟨by omega, by omega, by omega, hc1, hc2, hc3, hc4⟩, hr.below ba hr.1, hf.below ba hf.1, by omega, by omega, Nat.ne_of_lt hr.1, Nat.ne_of_lt hf.1⟩, hD, S3.alloc _, hbw, O3.alloc O3.size _⟩
  have HD := hide D3
  clear D3 O2 O3 X2 X3 F2 F3 S3 HS hb hr hf hG hF hL hc1 hc2 hc3 hc4 hgb hfb hD hw2
  go_upto_region 3 with fail
  generalize w3.alloc (.cells #[.int .i64 1, .slice (some ⟨g, 0, none⟩) L.length c, .slice (some ⟨f, 0, none⟩) F.length cf] 40) = w4 at *
  generalize w3.heap.size = D at *
  go_wp2_with fail
  refine (bn_any b 8 _ (by obtain ⟨_, _, _, _, _, _, _, _, _, h7, _⟩ := HD.out; exact h7) (by decide) (by decide)).mono ?_
  rintro e w5 ⟨x, x0, x1, rfl, S5, ho⟩
  have HD5 := hide (HD.out.oth (ho.mono (by obtain ⟨_, _, _, _, _, _, _, _, _, _, _, h9⟩ := HD.out; exact Nat.le_refl _)) S5)
  clear HD ho S5
  have HL := hide (HD5.out.le (k := x.toNat) (by omega))
  obtain ⟨xn, rfl⟩ : ∃ k : Nat, x = (k : Int) := ⟨x.toNat, by omega⟩
  have hx8 : xn ≤ 8 := by omega
  rw [Int.toNat_natCast] at HL
  clear HD5
  go_wp2_with fail
  go_loopw [6] (fun i wr => ∃ k : Nat, k ≤ 8 ∧ i = .int .i64 k ∧ Hid (DSt w b n k D wr)) (fun i _ => (intOf i).toNat)
  case atStart => exact ⟨xn, hx8, rfl, HL⟩
  case round =>
    clear HL
    obtain ⟨k, hk, rfl, HK⟩ := hrel
    rcases k with _ | k
    · obtain ⟨v, g, m, c, f, n', cf, L, F, Y⟩ := HK.out.fix
      have HY := hide Y
      obtain ⟨_, p0, p1, p2⟩ := id Y.1
      have f0 := Y.2.1 0
      have f1 := Y.2.1 1
      have f2 := Y.2.1 2
      obtain ⟨_, d0, d1, d2⟩ := id Y.2.2.1
      clear HK Y
      go_wp2_with fail
      refine bodyPost_ret (v := .agg #[.int .i64 v, .slice (some ⟨g, 0, none⟩) m c, .slice (some ⟨f, 0, none⟩) n' cf]) (by simp [results, Try.results38, go_sem, p0, p1, p2]) rfl ?_
      obtain ⟨_, _, _, _, ⟨a1, rfl, rfl, a2, ⟨a3, a3', a3'', a4, a5, a6, a7⟩, b1, b2, b3, b4, b5, b6⟩, r1, r2, r3, r4⟩ := HY.out
      exact ⟨v, g, c, f, cf, L, F, rfl, a1, by omega, a4, a5, ((r1.set (by simp; omega) _).set (by simp; omega) _).set (by simp; omega) _, by omega, ((r4.setCell (.inr (by simp)) _).setCell (.inr (by simp)) _).setCell (.inr (by simp)) _⟩
    · obtain ⟨v, g, m, c, f, n', cf, L, F, Y⟩ := HK.out.fix
      have K0 := Y.drew
      have K1 := (Y.alloc (Obj.cells #[.int .i64 0, .slice none 0 0, .slice none 0 0] 40)).drew
      have hk1 : (0 : Int) < ((k + 1 : Nat) : Int) := by omega
      have sw : IntKind.i64.wrap (((k + 1 : Nat) : Int) - 1) = (k : Int) := by rw [IntWalk.i64_in _ (by omega)]; omega
      clear HK Y
      have XN : Box3 (wr.alloc (Obj.cells #[.int .i64 0, .slice none 0 0, .slice none 0 0] 40)).drew wr.heap.size (.int .i64 0) (.slice none 0 0) (.slice none 0 0) := Box3.new wr _ _ _ 40
      have FN : Free (wr.alloc (Obj.cells #[.int .i64 0, .slice none 0 0, .slice none 0 0] 40)).drew wr.heap.size := Free.new wr _ 40
      have hbX : wr.heap.size ≠ b := Nat.ne_of_gt K0.bl
      go_upto_region 6 with fail
      go_cut [7, 8] (fun v7 v8 wy => ∃ (X : Nat) (a : Int) (A1 A2 : Option Addr) (m1 c1 m2 c2 : Nat) (z : Int) (W : World), v7 = .pointer (some ⟨X, 0, none⟩) ∧ v8 = .int .i64 z ∧ wy = W ∧ Hid (DFix w b n (k + 1) D v g m c f n' cf L F W) ∧ Hid (z = 0 → DirC w n k D (.int .i64 a) (.slice A1 m1 c1) (.slice A2 m2 c2) W) ∧ Hid (Box3 W X (.int .i64 a) (.slice A1 m1 c1) (.slice A2 m2 c2)))
      case first =>
        go_region_held3 (fun w' => w'.cell? ⟨D, 0, none⟩ = some (.int .i64 v) ∧ w'.cell? ⟨D, 1, none⟩ = some (.slice (some ⟨g, 0, none⟩) m c) ∧ w'.cell? ⟨D, 2, none⟩ = some (.slice (some ⟨f, 0, none⟩) n' cf) ∧ DFix w b n (k + 1) D v g m c f n' cf L F w')
          (first | exact DF3 K0 | exact DF3 KE2 | exact DF3 KE | exact DF3 K1 | exact DF3 (KE.alloc _) | exact DF3 (KE2.alloc _) | exact DF3 (KE2.set3 hXX _ _ _) | exact DF3 ((FD3 (by assumption)).alloc _) | assumption)
          (first
            | (go_at_call 95; refine (bedit_any b (n : Int) (wr.alloc (Obj.cells #[.int .i64 0, .slice none 0 0, .slice none 0 0] 40)).drew K1.src k1 k2).mono ?_; rintro e w' ⟨kd, fr, tt, md, e1, e2, e3, e4, e5, e6, e7, e8, rfl, hs', ho'⟩; have KE := K1.oth ho' hs'; have XE := XN.oth ho' XN.1 hbX; have FE := free_oth FN ho' XN.1 hbX; have hXX := K0.big; have hXE : wr.heap.size < w'.heap.size := XE.1)
            | (go_at_call 95; refine (bedit_any b (n : Int) wr.drew K0.src k1 k2).mono ?_; rintro e w' ⟨kd, fr, tt, md, e1, e2, e3, e4, e5, e6, e7, e8, rfl, hs', ho'⟩; have KE := K0.oth ho' hs')
            | (go_at_call 94; refine (dapply_dir HAp (KE.alloc (Obj.cells #[.int .i64 0, .slice none 0 0, .slice none 0 0] 40)) e1 e2 e3 e4 e5 e6 e7 e8).mono ?_; rintro e w'' ⟨ya, A1, A2, m1, c1, m2, c2, z, rfl, hz, hb'⟩; have KE2 := (KE.alloc (Obj.cells #[.int .i64 0, .slice none 0 0, .slice none 0 0] 40)).next hb'; have XE := Box3.new w' (.int .i64 0) (.slice none 0 0) (.slice none 0 0) 40; have FE := Free.new w' #[.int .i64 0, .slice none 0 0, .slice none 0 0] 40; have hXX := KE.big; have hXE := XE.1; have XE2 := XE.below hb' XE.1; have FE2 := FE.below hb' XE.1; obtain ⟨_, xb0, xb1, xb2⟩ := id XE2; have fb0 := FE2 0; have fb1 := FE2 1; have fb2 := FE2 2)
            | (go_at_call 94; refine (dapply_dir HAp KE e1 e2 e3 e4 e5 e6 e7 e8).mono ?_; rintro e w'' ⟨ya, A1, A2, m1, c1, m2, c2, z, rfl, hz, hb'⟩; have KE2 := KE.next hb'; have XE2 := XE.below hb' XE.1; have FE2 := FE.below hb' XE.1; obtain ⟨_, xb0, xb1, xb2⟩ := id XE2; have fb0 := FE2 0; have fb1 := FE2 1; have fb2 := FE2 2)
            | (go_at_call 94; refine (dapply_dir HAp KE e1 e2 e3 e4 e5 e6 e7 e8).mono ?_; rintro e w'' ⟨ya, A1, A2, m1, c1, m2, c2, z, rfl, hz, hb'⟩; have KE2 := KE.next hb'))
        all_goals
          go_wp2_with fail
          go_meet
          first
            | exact ⟨_, ya, A1, A2, m1, c1, m2, c2, z, _, rfl, rfl, rfl, hide (KE2.alloc _), hide (fun e0 => (hz.out e0 D KE.big.1).next ((Below.refl _ _).alloc (Nat.le_refl _) _)), hide (Box3.new _ _ _ _ 40)⟩
            | exact ⟨_, ya, A1, A2, m1, c1, m2, c2, z, _, rfl, rfl, rfl, hide (KE2.set3 hXX _ _ _), hide (fun e0 => dirs_set3 (hz.out e0) hXE _ _ _ D (Nat.lt_trans hXX.1 hXE)), hide (XE2.put3 _ _ _)⟩
      obtain ⟨X, ya, A1, A2, m1, c1, m2, c2, z, W, rfl, rfl, hz, HF, HZ, HX⟩ := hcut
      subst hz
      clear K0 K1 XN FN hbX
      by_cases h0 : z = 0
      · subst h0
        obtain ⟨_, d0, d1, d2⟩ := id HF.out.2.2.1
        have g0 := HF.out.2.2.2.1 0
        have g1 := HF.out.2.2.2.1 1
        have g2 := HF.out.2.2.2.1 2
        obtain ⟨_, q0, q1, q2⟩ := id HX.out
        have hd := HZ.out rfl
        have HN := hide (HF.out.dst.put hd)
        clear hd
        go_wp2_with fail
        go_roundw
        case rel => exact ⟨k, by omega, by go_num, HN⟩
        case measure => simp [intOf]
      · have hzb : (z == 0) = false := by rw [beq_eq_false_iff_ne]; exact h0
        have HN := hide HF.out.dst.less
        go_wp2_with fail
        go_roundw
        case rel => exact ⟨k, by omega, by go_num, HN⟩
        case measure => simp [intOf]
end Go.Proofs.Ytaoiekcoiooghaa
