/- The directory reference's Apply: its ends. No condition but those that stand in each. -/
import Derived.Test.YtaoiekcoiooghaaDr7
namespace Go.Proofs.Ytaoiekcoiooghaa
open Go.RowKit
theorem step_app3L {w : World} {ops : Array Oper} {o : Oper} {a : Act} {K : Act → World → Prop} {Q : Exit → Act → World → Prop} {E : Prop} (hgd : o.guard = none) (s x : Operand)
    (ho : o.op = .call { callee := .builtin .append, args := #[s, x], argTypes := #[38, 38] }) (hty : o.type = 38)
    {base : Nat} {v : Value} {L LM : List Sp} (hown : OwnP w base v L) (hs : a.eval s = v)
    {A : Option Addr} {m c : Nat} {M : List Sp} (hr : RdP w A m M) (hx : a.eval x = .slice A m c)
    (hlen : L.length + M.length ≤ 1000000) (hbase : base ≤ w.heap.size) (hLM : Hid (L ++ M = LM))
    (h : ∀ v' w', OwnP w' base v' LM → Below base w w' → K (a.put o.dst v') w') :
    if Region.wanted o (yielded ops a.tmps) = true then Oper.wp Try.prog o a w K Q else E :=
  step_app3 hgd s x ho hty hown hs hr hx hlen hbase (fun v' w' h1 h2 => h v' w' (hLM.out ▸ h1) h2)
theorem ret_apply {w W : World} {v : Int} {g m c f n cf : Nat} {kd fr tt md : Int} {L L' : List Sp} {F F' : List Int} {X f' cf' g' k c' : Nat}
    (h : XSt w v g m c f n cf kd fr tt md L F X (.slice (some ⟨g', 0, none⟩) k c') f' cf' F' W) (hrow : RowP L' g' W) (hk : Hid (L'.length = k)) (hFn : Hid (F'.length = n)) (hG : Hid (GoodD L' F')) (hm : L'.length ≤ m + 1) (hc : k ≤ c') (hcm : c' ≤ maxLen) (hg' : w.heap.size + 3 ≤ g') (y0 y1 y2 : Value) :
    RetA n m v w (.returned (.tuple #[.agg #[.int .i64 (v + 1), .slice (some ⟨g', 0, none⟩) k c', .slice (some ⟨f', 0, none⟩) n cf'], .int .i64 0])) (((W.setCell ⟨w.heap.size + 2, 0, none⟩ y0).setCell ⟨w.heap.size + 2, 1, none⟩ y1).setCell ⟨w.heap.size + 2, 2, none⟩ y2) := by
  obtain ⟨h1, h2, h3, h4, h5, h6, h7, h8, h9, h10⟩ := h
  obtain rfl := hk.out
  obtain rfl := hFn.out
  refine .inr ⟨g', c', f', cf', L', F', rfl, hG.out, rfl, hm, hc, hcm, h9, h10, ?_, ?_, by omega, by omega, ?_⟩
  · exact ((hrow.set (p := ⟨w.heap.size + 2, 0, none⟩) (by simp; omega) _).set (p := ⟨w.heap.size + 2, 1, none⟩) (by simp; omega) _).set (p := ⟨w.heap.size + 2, 2, none⟩) (by simp; omega) _
  · exact ((h4.set (p := ⟨w.heap.size + 2, 0, none⟩) (by simp; omega) _).set (p := ⟨w.heap.size + 2, 1, none⟩) (by simp; omega) _).set (p := ⟨w.heap.size + 2, 2, none⟩) (by simp; omega) _
  · exact ((h1.2.2.2.2.2.2.setCell (p := ⟨w.heap.size + 2, 0, none⟩) (by simp) _).setCell (p := ⟨w.heap.size + 2, 1, none⟩) (by simp) _).setCell (p := ⟨w.heap.size + 2, 2, none⟩) (by simp) _
/-- While a merge's spans are made: the new directory's variable (its spans unknown). -/
def KM (w : World) (v : Int) (g m c f n cf : Nat) (kd fr tt md : Int) (L : List Sp) (F : List Int) (X f' cf' : Nat) (F' : List Int) (B : Nat) (W : World) : Prop :=
  (∃ x1, XSt w v g m c f n cf kd fr tt md L F X x1 f' cf' F' W) ∧ (X < B ∧ f' < B ∧ w.heap.size + 3 ≤ B ∧ g < w.heap.size ∧ f < w.heap.size) ∧ B ≤ W.heap.size
section
variable {w W W' : World} {v : Int} {g m c f n cf : Nat} {kd fr tt md : Int} {L : List Sp} {F F' : List Int} {X f' cf' B B' : Nat}
theorem KM.under (h : KM w v g m c f n cf kd fr tt md L F X f' cf' F' B W) (hB : B ≤ B') (hb : Below B' W W') : KM w v g m c f n cf kd fr tt md L F X f' cf' F' B W' := by
  obtain ⟨⟨x1, h1⟩, ⟨a1, a2, a4, a5, a6⟩, h4⟩ := h
  exact ⟨⟨x1, h1.under (B := B') (by omega) (by omega) (by omega) a5 a6 hb⟩, ⟨a1, a2, a4, a5, a6⟩, Nat.le_trans h4 hb.size⟩
theorem KM.nx (h : KM w v g m c f n cf kd fr tt md L F X f' cf' F' B W) (hb : Below W.heap.size W W') : KM w v g m c f n cf kd fr tt md L F X f' cf' F' B W' ∧ B ≤ W.heap.size := ⟨h.under h.2.2 hb, h.2.2⟩
theorem KM.alloc (h : KM w v g m c f n cf kd fr tt md L F X f' cf' F' B W) (o : Obj) : KM w v g m c f n cf kd fr tt md L F X f' cf' F' B (W.alloc o) := h.under h.2.2 ((Below.refl _ _).alloc (Nat.le_refl _) o)
theorem KM.st (h : KM w v g m c f n cf kd fr tt md L F X f' cf' F' B W) (u : Value) : XSt w v g m c f n cf kd fr tt md L F X u f' cf' F' (W.setCell ⟨X, 1, none⟩ u) := by
  obtain ⟨⟨x1, h1⟩, ⟨_, _, _, a5, a6⟩, _⟩ := h
  exact h1.put1 a5 a6 u
theorem KM.put1 (h : KM w v g m c f n cf kd fr tt md L F X f' cf' F' B W) (u : Value) : KM w v g m c f n cf kd fr tt md L F X f' cf' F' B (W.setCell ⟨X, 1, none⟩ u) :=
  ⟨⟨u, h.st u⟩, h.2.1, by simpa using h.2.2⟩
theorem KM.cell1 (h : KM w v g m c f n cf kd fr tt md L F X f' cf' F' B W) : ∃ x1, W.cell? ⟨X, 1, none⟩ = some x1 := by
  obtain ⟨⟨x1, h1⟩, _⟩ := h
  exact ⟨x1, h1.2.1.2.2.1⟩
theorem KM.free1 (h : KM w v g m c f n cf kd fr tt md L F X f' cf' F' B W) : W.frozen? ⟨X, 1, none⟩ = false := by
  obtain ⟨⟨x1, h1⟩, _⟩ := h
  exact h1.2.2.1 1
theorem KM.rdt (h : KM w v g m c f n cf kd fr tt md L F X f' cf' F' B W) (hm : Hid (L.length = m)) {i : Nat} (hi : i ≤ m) : RdP W (some ⟨g, 0, none⟩) i (L.take i) := by
  obtain ⟨⟨x1, h1⟩, _⟩ := h
  have hr : RowP L g W := h1.1.2.2.2.2.1
  have := hr.rd
  rw [hm.out] at this
  exact this.take_ hi
/-- What region 26 loads. -/
theorem SM {i : Nat} {a b : Sp} (ha : Hid (L[i]? = some a)) (hb : Hid (L[i + 1]? = some b)) (h : KM w v g m c f n cf kd fr tt md L F X f' cf' F' B W) :
    W.cell? ⟨w.heap.size, 1, none⟩ = some (.slice (some ⟨g, 0, none⟩) m c) ∧ W.cell? ⟨g, i * 3, none⟩ = some (.int .i64 a.lo) ∧ W.cell? ⟨g, (i + 1) * 3 + 1, none⟩ = some (.int .i64 b.hi) ∧ W.cell? ⟨w.heap.size + 1, 2, none⟩ = some (.int .i64 tt) ∧ KM w v g m c f n cf kd fr tt md L F X f' cf' F' B W := by
  have h' := h
  obtain ⟨⟨x1, h1⟩, _⟩ := h
  exact ⟨h1.1.1.2.2.1, (h1.1.2.2.2.2.1.2 i a ha.out).1, (h1.1.2.2.2.2.1.2 (i + 1) b hb.out).2.1, h1.1.2.1.2.2.2.1, h'⟩
theorem MK {p0 p1 p2 p3 : Addr} {x0 x1 x2 x3 : Value}
    (h : W.cell? p0 = some x0 ∧ W.cell? p1 = some x1 ∧ W.cell? p2 = some x2 ∧ W.cell? p3 = some x3 ∧ KM w v g m c f n cf kd fr tt md L F X f' cf' F' B W) : KM w v g m c f n cf kd fr tt md L F X f' cf' F' B W := h.2.2.2.2
theorem KM.drew (h : KM w v g m c f n cf kd fr tt md L F X f' cf' F' B W) : KM w v g m c f n cf kd fr tt md L F X f' cf' F' B W.drew := by
  obtain ⟨⟨x1, h1⟩, h3, h4⟩ := h
  exact ⟨⟨x1, h1.drew⟩, h3, h4⟩
end
/-- The span of tt stands just ahead of the span of fr. -/
def TtFr (L : List Sp) (fr tt : Int) : Prop := ∃ (i : Nat) (a b : Sp), L[i]? = some a ∧ L[i + 1]? = some b ∧ a.sh = tt ∧ b.sh = fr
/-- Where two neighbours are merged. -/
theorem merge_at {L : List Sp} {fr tt r1 r2 : Int} (h1 : IdxR L fr r1) (h2 : IdxR L tt r2) (c1 : ¬ r1 < 0) (c2 : ¬ r2 < 0) (c3 : r1 + 1 = r2 ∨ r2 + 1 = r1) :
    ∃ (i : Nat) (a b : Sp), L[i]? = some a ∧ L[i + 1]? = some b ∧ (((a.sh = fr ∧ b.sh = tt) ∧ r1 = i ∧ (i : Int) + 1 ≤ r2 ∧ r2 ≤ (i : Int) + 1) ∨ ((a.sh = tt ∧ b.sh = fr) ∧ r2 = i ∧ (i : Int) + 1 ≤ r1 ∧ r1 ≤ (i : Int) + 1)) := by
  rcases h1 with ⟨h1, _⟩ | ⟨i, rfl, x, hx, hxs⟩
  · omega
  rcases h2 with ⟨h2, _⟩ | ⟨j, rfl, y, hy, hys⟩
  · omega
  rcases c3 with c3 | c3
  · obtain rfl : j = i + 1 := by omega
    exact ⟨i, x, y, hx, hy, .inl ⟨⟨hxs, hys⟩, rfl, by omega, by omega⟩⟩
  · obtain rfl : i = j + 1 := by omega
    exact ⟨j, y, x, hy, hx, .inr ⟨⟨hys, hxs⟩, rfl, by omega, by omega⟩⟩
theorem nodup_at {L : List Sp} (hn : (L.map Sp.sh).Nodup) {i k : Nat} {p q : Sp} (hi : L[i]? = some q) (hk : L[k]? = some p) (h : q.sh = p.sh) : i = k := by
  have h1 := (List.getElem?_eq_some_iff.1 hi).1
  have h2 := (List.getElem?_eq_some_iff.1 hk).1
  have g1 := (List.getElem?_eq_some_iff.1 hi).2
  have g2 := (List.getElem?_eq_some_iff.1 hk).2
  unfold List.Nodup at hn
  rw [List.pairwise_map] at hn
  have R := List.pairwise_iff_getElem.1 hn
  rcases Nat.lt_trichotomy i k with hl | hl | hl
  · exact absurd (by rw [g1, g2]; exact h) (R i k h1 h2 hl)
  · exact hl
  · exact absurd (by rw [g1, g2]; exact h.symm) (R k i h2 h1 hl)
theorem ttfr_not {L : List Sp} {F : List Int} {fr tt : Int} (hG : GoodD L F) (h : TtFr L fr tt) {i : Nat} {a b : Sp} (ha : L[i]? = some a) (hb : L[i + 1]? = some b) (hab : a.sh = fr ∧ b.sh = tt) : False := by
  obtain ⟨k, x, y, hx, hy, hxs, hys⟩ := h
  have e1 := nodup_at hG.2.1 ha hy (by rw [hab.1, hys])
  have e2 := nodup_at hG.2.1 hb hx (by rw [hab.2, hxs])
  omega
theorem err_apply {w W : World} {n m : Nat} {v z : Int} (hB : Below w.heap.size w W) (hz : z ≠ 0) (y0 y1 y2 : Value) :
    RetA n m v w (.returned (.tuple #[.agg #[.int .i64 0, .slice none 0 0, .slice none 0 0], .int .i64 z])) (((W.setCell ⟨w.heap.size + 2, 0, none⟩ y0).setCell ⟨w.heap.size + 2, 1, none⟩ y1).setCell ⟨w.heap.size + 2, 2, none⟩ y2) :=
  .inl ⟨z, hz, rfl, ((hB.setCell (p := ⟨w.heap.size + 2, 0, none⟩) (by simp) _).setCell (p := ⟨w.heap.size + 2, 1, none⟩) (by simp) _).setCell (p := ⟨w.heap.size + 2, 2, none⟩) (by simp) _⟩
theorem idxR_bd {L : List Sp} {s r : Int} {m : Nat} (h : IdxR L s r) (hm : Hid (L.length = m)) : r < (m : Int) := by
  rcases h with ⟨rfl, _⟩ | ⟨k, rfl, x, hx, _⟩
  · omega
  · have := (List.getElem?_eq_some_iff.1 hx).1
    rw [hm.out] at this
    omega
end Go.Proofs.Ytaoiekcoiooghaa
