/- The walk over a good directory: what is held on the way. No condition but those that stand in each. -/
import Derived.Test.YtaoiekcoiooghaaDv1
import Derived.Test.YtaoiekcoiooghaaDr8
import Derived.Test.YtaoiekcoiooghaaWk1
namespace Go.Proofs.Ytaoiekcoiooghaa
open Go.RowKit
/-- A walk's variable. -/
def Bx2 (W : World) (b : Nat) (x y : Int) : Prop := b < W.heap.size ∧ W.cell? ⟨b, 0, none⟩ = some (.int .i64 x) ∧ W.cell? ⟨b, 1, none⟩ = some (.int .i64 y)
theorem Bx2.new (w : World) (x y : Int) (t : TypeId) : Bx2 (w.alloc (.cells #[.int .i64 x, .int .i64 y] t)) w.heap.size x y := by
  refine ⟨by simp, ?_, ?_⟩ <;> simp [World.cell?_alloc_new]
theorem Bx2.below {W W' : World} {b B : Nat} {x y : Int} (h : Bx2 W b x y) (hb : Below B W W') (hB : b < B) : Bx2 W' b x y := ⟨Nat.lt_of_lt_of_le h.1 hb.size, (hb.cell (p := ⟨b, 0, none⟩) hB).trans h.2.1, (hb.cell (p := ⟨b, 1, none⟩) hB).trans h.2.2⟩
/-- The directory's spans, the walk's variable, the row of visits. -/
def VW (w : World) (D g m c Bw Bv : Nat) (L : List Sp) (x y : Int) (V : List Int) (W : World) : Prop :=
  W.cell? ⟨D, 1, none⟩ = some (.slice (some ⟨g, 0, none⟩) m c) ∧ Bx2 W Bw x y ∧ Free W Bw ∧ RowN V Bv W ∧ Free W Bv ∧ RowP L g W ∧ (D < W.heap.size ∧ w.heap.size ≤ Bw ∧ w.heap.size ≤ Bv ∧ Bw ≠ Bv ∧ D ≠ Bw ∧ D ≠ Bv ∧ g ≠ Bw ∧ g ≠ Bv) ∧ Below w.heap.size w W
section
variable {w W W' : World} {D g m c Bw Bv : Nat} {L : List Sp} {x y : Int} {V : List Int}
theorem VW.next (h : VW w D g m c Bw Bv L x y V W) (hb : Below W.heap.size W W') : VW w D g m c Bw Bv L x y V W' := by
  obtain ⟨h1, h2, h3, h4, h5, h6, ⟨a0, a⟩, h8⟩ := h
  exact ⟨(hb.cell (p := ⟨D, 1, none⟩) a0).trans h1, h2.below hb h2.1, h3.below hb h2.1, h4.below hb h4.1, h5.below hb h4.1, h6.below hb h6.1, ⟨Nat.lt_of_lt_of_le a0 hb.size, a⟩, h8.trans (hb.mono h8.size)⟩
theorem VW.drew (h : VW w D g m c Bw Bv L x y V W) : VW w D g m c Bw Bv L x y V W.drew := ⟨h.1, h.2.1, h.2.2.1, h.2.2.2.1, h.2.2.2.2.1, h.2.2.2.2.2.1, h.2.2.2.2.2.2.1, h.2.2.2.2.2.2.2.drew⟩
theorem VW.drewN (h : VW w D g m c Bw Bv L x y V W) (n : Nat) : VW w D g m c Bw Bv L x y V (W.drewN n) := ⟨h.1, h.2.1, h.2.2.1, h.2.2.2.1, h.2.2.2.2.1, h.2.2.2.2.2.1, h.2.2.2.2.2.2.1, ⟨h.2.2.2.2.2.2.2.os, h.2.2.2.2.2.2.2.tape, h.2.2.2.2.2.2.2.output, h.2.2.2.2.2.2.2.size, h.2.2.2.2.2.2.2.block⟩⟩
theorem VW.alloc (h : VW w D g m c Bw Bv L x y V W) (o : Obj) : VW w D g m c Bw Bv L x y V (W.alloc o) := h.next ((Below.refl _ _).alloc (Nat.le_refl _) o)
/-- The walk's variable is put. -/
theorem VW.put (h : VW w D g m c Bw Bv L x y V W) (x' y' : Int) : VW w D g m c Bw Bv L x' y' V ((W.setCell ⟨Bw, 0, none⟩ (.int .i64 x')).setCell ⟨Bw, 1, none⟩ (.int .i64 y')) := by
  obtain ⟨k1, ⟨b0, b1, b2⟩, k3, k4, k5, k6, ⟨a0, a1, a2, a3, a4, a5, a6, a7⟩, k8⟩ := h
  refine ⟨by simp [go_sem, k1], ⟨by simpa using b0, by simp [go_sem, b1], by simp [go_sem, b2]⟩, (k3.set _ _).set _ _, (k4.set (by simpa using Ne.symm a3) _).set (by simpa using Ne.symm a3) _, (k5.set _ _).set _ _, (k6.set (by simpa using a6) _).set (by simpa using a6) _, ⟨by simpa using a0, a1, a2, a3, a4, a5, a6, a7⟩, (k8.setCell (p := ⟨Bw, 0, none⟩) a1 _).setCell (p := ⟨Bw, 1, none⟩) a1 _⟩
/-- A visit is counted. -/
theorem VW.vis (h : VW w D g m c Bw Bv L x y V W) (k : Nat) (hk : k < V.length) (z : Int) : VW w D g m c Bw Bv L x y (V.set k z) (W.setCell ⟨Bv, k, none⟩ (.int .i64 z)) := by
  obtain ⟨k1, ⟨b0, b1, b2⟩, k3, k4, k5, k6, ⟨a0, a1, a2, a3, a4, a5, a6, a7⟩, k8⟩ := h
  refine ⟨by simp [go_sem, k1], ⟨by simpa using b0, by simp [go_sem, b1], by simp [go_sem, b2]⟩, k3.set _ _, k4.put k hk z, k5.set _ _, k6.set (by simpa using a7) _, ⟨by simpa using a0, a1, a2, a3, a4, a5, a6, a7⟩, k8.setCell (p := ⟨Bv, k, none⟩) a2 _⟩
end
section
variable {w W W' : World} {D g m c Bw Bv : Nat} {L : List Sp} {x y : Int} {V : List Int}
/-- What the call of Advance loads. -/
theorem SV {k : Nat} {p : Sp} (hk : Hid (L[k]? = some p)) (h : VW w D g m c Bw Bv L x y V W) : W.cell? ⟨Bw, 0, none⟩ = some (.int .i64 x) ∧ W.cell? ⟨Bw, 1, none⟩ = some (.int .i64 y) ∧ W.cell? ⟨D, 1, none⟩ = some (.slice (some ⟨g, 0, none⟩) m c) ∧ W.cell? ⟨g, k * 3, none⟩ = some (.int .i64 p.lo) ∧ W.cell? ⟨g, k * 3 + 1, none⟩ = some (.int .i64 p.hi) ∧ VW w D g m c Bw Bv L x y V W :=
  ⟨h.2.1.2.1, h.2.1.2.2, h.1, (h.2.2.2.2.2.1.2 k p hk.out).1, (h.2.2.2.2.2.1.2 k p hk.out).2.1, h⟩
theorem VS {p0 p1 p2 p3 p4 : Addr} {z0 z1 z2 z3 z4 : Value} (h : W.cell? p0 = some z0 ∧ W.cell? p1 = some z1 ∧ W.cell? p2 = some z2 ∧ W.cell? p3 = some z3 ∧ W.cell? p4 = some z4 ∧ VW w D g m c Bw Bv L x y V W) : VW w D g m c Bw Bv L x y V W := h.2.2.2.2.2
theorem VW.lts (h : VW w D g m c Bw Bv L x y V W) : D < W.heap.size ∧ Bw < W.heap.size ∧ Bv < W.heap.size ∧ g < W.heap.size ∧ w.heap.size ≤ W.heap.size := ⟨h.2.2.2.2.2.2.1.1, h.2.1.1, h.2.2.2.1.1, h.2.2.2.2.2.1.1, h.2.2.2.2.2.2.2.size⟩
/-- Two stores into a block beyond all these. -/
theorem VW.set2 (h : VW w D g m c Bw Bv L x y V W) {X : Nat} (hX : D < X ∧ Bw < X ∧ Bv < X ∧ g < X ∧ w.heap.size ≤ X) (u0 u1 : Value) : VW w D g m c Bw Bv L x y V ((W.setCell ⟨X, 0, none⟩ u0).setCell ⟨X, 1, none⟩ u1) := by
  obtain ⟨k1, ⟨b0, b1, b2⟩, k3, k4, k5, k6, ⟨a0, a⟩, k8⟩ := h
  obtain ⟨x1, x2, x3, x4, x5⟩ := hX
  have n1 : D ≠ X := by omega
  have n2 : Bw ≠ X := by omega
  refine ⟨by simp [go_sem, k1], ⟨by simpa using b0, by simp [go_sem, b1], by simp [go_sem, b2]⟩, (k3.set _ _).set _ _, (k4.set (by simp; omega) _).set (by simp; omega) _, (k5.set _ _).set _ _, (k6.set (by simp; omega) _).set (by simp; omega) _, ⟨by simpa using a0, a⟩, (k8.setCell (p := ⟨X, 0, none⟩) x5 _).setCell (p := ⟨X, 1, none⟩) x5 _⟩
theorem Bx2.put {b : Nat} (h : Bx2 W b x y) (x' y' : Int) : Bx2 ((W.setCell ⟨b, 0, none⟩ (.int .i64 x')).setCell ⟨b, 1, none⟩ (.int .i64 y')) b x' y' := ⟨by simpa using h.1, by simp [go_sem, h.2.1], by simp [go_sem, h.2.2]⟩
end
theorem vw_start {w W : World} {D g m c : Nat} {L : List Sp} {s : Int} (hD : D < W.heap.size) (h1 : W.cell? ⟨D, 1, none⟩ = some (.slice (some ⟨g, 0, none⟩) m c)) (hr : RowP L g W) (hW : Below w.heap.size w W) (hg : g < W.heap.size) :
    VW w D g m c W.heap.size (W.heap.size + 1) L s 0 [0, 0, 0, 0, 0, 0] ((W.alloc (.cells #[.int .i64 s, .int .i64 0] 23)).alloc (.cells #[.int .i64 0, .int .i64 0, .int .i64 0, .int .i64 0, .int .i64 0, .int .i64 0] 42)) := by
  have b1 := (Below.refl W.heap.size W).alloc (Nat.le_refl _) (.cells #[.int .i64 s, .int .i64 0] 23)
  have X1 := Bx2.new W s 0 23
  have F1 := Free.new W #[.int .i64 s, .int .i64 0] 23
  have W1 := hW.alloc hW.size (.cells #[.int .i64 s, .int .i64 0] 23)
  have c1 := (b1.cell (p := ⟨D, 1, none⟩) hD).trans h1
  have r1 := hr.below b1 hr.1
  have hs : (W.alloc (.cells #[.int .i64 s, .int .i64 0] 23)).heap.size = W.heap.size + 1 := by rw [World.size_alloc]
  have hw := hW.size
  generalize W.alloc (.cells #[.int .i64 s, .int .i64 0] 23) = V at *
  have b2 := (Below.refl V.heap.size V).alloc (Nat.le_refl _) (.cells #[.int .i64 0, .int .i64 0, .int .i64 0, .int .i64 0, .int .i64 0, .int .i64 0] 42)
  have F2 := Free.new V #[.int .i64 0, .int .i64 0, .int .i64 0, .int .i64 0, .int .i64 0, .int .i64 0] 42
  rw [← hs]
  refine ⟨(b2.cell (p := ⟨D, 1, none⟩) (by simp; omega)).trans c1, X1.below b2 (by omega), F1.below b2 (by omega), ⟨by simp, fun j x hx => ?_⟩, F2, r1.below b2 (by omega), ⟨by simp; omega, by omega, by omega, by omega, by omega, by omega, by omega, by omega⟩, W1.alloc W1.size _⟩
  have hj : j < 6 := by have := (List.getElem?_eq_some_iff.1 hx).1; simpa using this
  match j, hj with
  | 0, _ | 1, _ | 2, _ | 3, _ | 4, _ | 5, _ => simp at hx; subst hx; simp [World.cell?_alloc_new]
/-- What holds of the walk after t rounds. -/
def VInv (L : List Sp) (s : Int) (j : Nat) (pj : Sp) (t : Nat) (x y : Int) (V : List Int) (fs : Int) : Prop :=
  (0 ≤ y ∧ y ≤ 131072 ∧ 0 ≤ x ∧ x ≤ 65535 ∧ s + y ≤ pj.hi + 1 + 65536 ∧ t ≤ L.length + 1 ∧ V.length = 6) ∧ (y ≤ 65535 → At L s j t x y) ∧ (∀ (i : Nat) (q : Sp), L[i]? = some q → V[q.sh.toNat]? = some (vis s y q)) ∧ ((t = 0 ∧ fs = -1 ∧ y = 0) ∨ (1 ≤ t ∧ fs = pj.sh))
theorem vis_bd (s y : Int) (p : Sp) : 0 ≤ vis s y p ∧ vis s y p ≤ 2 := by unfold vis; split <;> split <;> omega
theorem vinv_start {L : List Sp} {F : List Int} {s : Int} {j : Nat} {pj : Sp} (hG : GoodD L F) (hs : 0 ≤ s ∧ s ≤ 65535) (_hj : L[j]? = some pj) (_hj1 : pj.lo ≤ s) (hj2 : s ≤ pj.hi) : VInv L s j pj 0 s 0 [0, 0, 0, 0, 0, 0] (-1) := by
  refine ⟨⟨by omega, by omega, by omega, by omega, by omega, by omega, rfl⟩, fun _ => .inl ⟨rfl, rfl, rfl⟩, fun i q hi => ?_, .inl ⟨rfl, rfl, rfl⟩⟩
  have mq := chain_mem hG.1 q (List.mem_of_getElem? hi)
  have sq := hG.2.2.1 q (List.mem_of_getElem? hi)
  have h6 := hG.2.2.2.2.1
  rw [vis_zero s q mq.1 hs.2]
  have : q.sh.toNat < 6 := by omega
  match q.sh.toNat, this with
  | 0, _ | 1, _ | 2, _ | 3, _ | 4, _ | 5, _ => rfl
theorem vinv_step {L : List Sp} {F : List Int} {s x y fs : Int} {j t k : Nat} {p pj : Sp} {V : List Int} (hG : GoodD L F) (hs : 0 ≤ s ∧ s ≤ 65535) (hj : L[j]? = some pj) (hj1 : pj.lo ≤ s) (hj2 : s ≤ pj.hi) (h : VInv L s j pj t x y V fs) (hy : y ≤ 65535) (hk : L[k]? = some p) (h1 : p.lo ≤ x) (h2 : x ≤ p.hi) :
    VInv L s j pj (t + 1) ((p.hi + 1) % 65536) (y + p.hi - x + 1) (V.set p.sh.toNat (vis s y p + 1)) (if fs < 0 then p.sh else fs) := by
  obtain ⟨⟨a1, a2, a3, a4, a5, a6, a7⟩, hA, hV, hf⟩ := h
  have hA := hA hy
  have mp := chain_mem hG.1 p (List.mem_of_getElem? hk)
  have mj := chain_mem hG.1 pj (List.mem_of_getElem? hj)
  have sj := hG.2.2.1 pj (List.mem_of_getElem? hj)
  have hb := at_bound hG.1 hs hA ⟨a1, hy⟩ hk h1 h2 hj hj1 hj2
  have hr := at_rounds hG.1 hA hy hj hj2
  refine ⟨⟨by omega, by omega, by omega, by omega, hb, by omega, by rw [List.length_set]; exact a7⟩, fun hn => at_step hG.1 hs hA ⟨a1, hy⟩ hk h1 h2 hj hj1 hj2 hn, fun i q hi => visits_step hG hs hA ⟨a1, hy⟩ hk h1 h2 hV i q hi, .inr ⟨by omega, ?_⟩⟩
  rcases hf with ⟨rfl, rfl, rfl⟩ | ⟨ht, rfl⟩
  · rcases at_hold hG.1 hA hk h1 h2 hj hj1 hj2 with ⟨_, _, _, _, rfl⟩ | ⟨hy0, _, _⟩
    · rfl
    · rcases hA with ⟨_, _, h5⟩ | ⟨k', p', hk', h3, h4, ⟨h5, h6⟩ | ⟨h5, h6⟩⟩
      · omega
      · exfalso
        have mp' := chain_mem hG.1 p' (List.mem_of_getElem? hk')
        have hkj : k' = j := by omega
        subst hkj
        rw [hk'] at hj
        injection hj with hj
        subst hj
        omega
      · have := (List.getElem?_eq_some_iff.1 hk').1
        have := (List.getElem?_eq_some_iff.1 hj).1
        omega
  · rw [if_neg (by omega)]
theorem vinv_rounds {L : List Sp} {F : List Int} {s x y fs : Int} {j t : Nat} {pj : Sp} {V : List Int} (hG : GoodD L F) (hj : L[j]? = some pj) (hj2 : s ≤ pj.hi) (h : VInv L s j pj t x y V fs) (hy : y ≤ 65535) : t ≤ L.length := at_rounds hG.1 (h.2.1 hy) hy hj hj2
end Go.Proofs.Ytaoiekcoiooghaa
