/- The directory reference's Apply: what is held on the way. No condition. -/
import Derived.Test.YtaoiekcoiooghaaDr4
import Derived.Test.YtaoiekcoiooghaaDr6
import Derived.Deep.Onto
namespace Go.Proofs.Ytaoiekcoiooghaa
open Go.RowKit
/-- While Apply runs: the directory, the change, the result's variable (still empty), the rows. -/
def ASt (w : World) (v : Int) (g m c f n cf : Nat) (kd fr tt md : Int) (L : List Sp) (F : List Int) (W : World) : Prop :=
  Box3 W w.heap.size (.int .i64 v) (.slice (some ⟨g, 0, none⟩) m c) (.slice (some ⟨f, 0, none⟩) n cf) ∧ Box4 W (w.heap.size + 1) (.int .i64 kd) (.int .i64 fr) (.int .i64 tt) (.int .i64 md) ∧
  Box3 W (w.heap.size + 2) (.int .i64 0) (.slice none 0 0) (.slice none 0 0) ∧ Free W (w.heap.size + 2) ∧ RowP L g W ∧ RowN F f W ∧ Below w.heap.size w W
section
variable {w W W' : World} {v : Int} {g m c f n cf : Nat} {kd fr tt md : Int} {L : List Sp} {F : List Int}
theorem ASt.next (h : ASt w v g m c f n cf kd fr tt md L F W) (hb : Below W.heap.size W W') : ASt w v g m c f n cf kd fr tt md L F W' := by
  obtain ⟨h1, h2, h3, h4, h5, h6, h7⟩ := h
  exact ⟨h1.below hb h1.1, h2.below hb h2.1, h3.below hb h3.1, h4.below hb h3.1, h5.below hb h5.1, h6.below hb h6.1, h7.trans (hb.mono h7.size)⟩
theorem ASt.drew (h : ASt w v g m c f n cf kd fr tt md L F W) : ASt w v g m c f n cf kd fr tt md L F W.drew := ⟨h.1, h.2.1, h.2.2.1, h.2.2.2.1, h.2.2.2.2.1, h.2.2.2.2.2.1, h.2.2.2.2.2.2.drew⟩
/-- A store beyond the first three blocks, and not into the rows. -/
theorem ASt.set (h : ASt w v g m c f n cf kd fr tt md L F W) {p : Addr} (hp : w.heap.size + 2 < p.block) (hg : g ≠ p.block) (hf : f ≠ p.block) (u : Value) : ASt w v g m c f n cf kd fr tt md L F (W.setCell p u) := by
  obtain ⟨h1, h2, h3, h4, h5, h6, h7⟩ := h
  exact ⟨h1.far (by omega) u, h2.far (by omega) u, h3.far (by omega) u, h4.set p u, h5.set hg u, h6.set hf u, h7.setCell (by omega) u⟩
end
theorem Box4.new' (w : World) (x0 x1 x2 x3 : Value) (t : TypeId) : Box4 (w.alloc (.cells #[x0, x1, x2, x3] t)) w.heap.size x0 x1 x2 x3 := Box4.new w x0 x1 x2 x3 t
theorem keepA {w W W' : World} {v : Int} {g m c f n cf : Nat} {kd fr tt md : Int} {L : List Sp} {F : List Int} {x0 x1 x2 y1 y2 : Value} {b b1 : Nat}
    (h : W.cell? ⟨b, 0, none⟩ = some x0 ∧ W.cell? ⟨b, 1, none⟩ = some x1 ∧ W.cell? ⟨b, 2, none⟩ = some x2 ∧ W.cell? ⟨b1, 1, none⟩ = some y1 ∧ W.cell? ⟨b1, 2, none⟩ = some y2 ∧ ASt w v g m c f n cf kd fr tt md L F W) (hb : Below W.heap.size W W') :
    W'.cell? ⟨b, 0, none⟩ = some x0 ∧ W'.cell? ⟨b, 1, none⟩ = some x1 ∧ W'.cell? ⟨b, 2, none⟩ = some x2 ∧ W'.cell? ⟨b1, 1, none⟩ = some y1 ∧ W'.cell? ⟨b1, 2, none⟩ = some y2 ∧ ASt w v g m c f n cf kd fr tt md L F W' := by
  have k : ∀ {p : Addr} {x : Value}, W.cell? p = some x → W'.cell? p = some x := fun {p x} hx => (hb.cell (p := p) (World.block_lt_of_cell? W _ hx)).trans hx
  exact ⟨k h.1, k h.2.1, k h.2.2.1, k h.2.2.2.1, k h.2.2.2.2.1, h.2.2.2.2.2.next hb⟩
theorem didx_A {w W : World} {v : Int} {g m c f n cf : Nat} {kd fr tt md : Int} {L : List Sp} {F : List Int} {x0 x1 x2 y1 y2 : Value} {b b1 : Nat} (u sl : Value) (slot : Int)
    (h : W.cell? ⟨b, 0, none⟩ = some x0 ∧ W.cell? ⟨b, 1, none⟩ = some x1 ∧ W.cell? ⟨b, 2, none⟩ = some x2 ∧ W.cell? ⟨b1, 1, none⟩ = some y1 ∧ W.cell? ⟨b1, 2, none⟩ = some y2 ∧ ASt w v g m c f n cf kd fr tt md L F W) (hm : Hid (L.length = m)) (hm1 : m ≤ 100) :
    Calls Try.prog 104 #[.agg #[u, .slice (some ⟨g, 0, none⟩) m c, sl], .int .i64 slot] W (RetI L slot W) := didx_any L m hm.out hm1 g c u sl slot W h.2.2.2.2.2.2.2.2.2.1
theorem step_appN {w : World} {ops : Array Oper} {o : Oper} {a : Act} {K : Act → World → Prop} {Q : Exit → Act → World → Prop} {E : Prop} (hgd : o.guard = none) (s x : Operand)
    (ho : o.op = .call { callee := .builtin .append, args := #[s, x], argTypes := #[24, 24] })
    {base : Nat} {v : Value} {F : List Int} (hown : OwnN w base v F) (hs : a.eval s = v)
    {B : Nat} {A : Option Addr} {m c : Nat} {news : List Int} (hr : Reads w B A m (ivs news)) (hx : a.eval x = .slice A m c)
    (hlen : F.length + news.length ≤ 1000000) (hbase : base ≤ w.heap.size)
    (h : ∀ v' w', OwnN w' base v' (F ++ news) → Below base w w' → K (a.put o.dst v') w') :
    if Region.wanted o (yielded ops a.tmps) = true then Oper.wp Try.prog o a w K Q else E := by
  obtain ⟨i0, hi0, hz0, hz1, hz2⟩ := info_parts info3'
  have hm : m = news.length := by have := hr.1; rw [ivs_length] at this; omega
  subst hm
  refine step_append_any w hgd s x 24 ho base 3 i0 _ 8 Try.underlying24 hi0 hz0 hz1 hz2 rfl v F.length (ivs F) hs hown B A _ c (ivs news) hx hr (ivs_one _) (by simp only [maxLen]; omega) (by omega) hbase ?_
  intro v' w' hown' hg hat
  refine h v' w' ?_ ?_
  · unfold OwnN
    rw [show ivs (F ++ news) = ivs F ++ ivs news by simp [ivs], List.length_append]
    exact hown'
  · exact (Below.refl base w).grown hg hbase fun k hk => (World.ownsRow.lt hown k hk).1
theorem RowN.reads {F : List Int} {f : Nat} {W : World} (h : RowN F f W) : Reads W W.heap.size (some ⟨f, 0, none⟩) F.length (ivs F) := by
  refine ⟨ivs_length F, fun _ => ⟨f, 0, rfl, h.1, fun j u hu => ?_⟩⟩
  rw [Nat.zero_add]
  simp only [ivs, List.getElem?_map, Option.map_eq_some_iff] at hu
  obtain ⟨x, hx, rfl⟩ := hu
  exact h.2 j x hx
theorem SA {w W : World} {v : Int} {g m c f n cf : Nat} {kd fr tt md : Int} {L : List Sp} {F : List Int} (h : ASt w v g m c f n cf kd fr tt md L F W) :
    W.cell? ⟨w.heap.size, 0, none⟩ = some (.int .i64 v) ∧ W.cell? ⟨w.heap.size, 1, none⟩ = some (.slice (some ⟨g, 0, none⟩) m c) ∧ W.cell? ⟨w.heap.size, 2, none⟩ = some (.slice (some ⟨f, 0, none⟩) n cf) ∧ W.cell? ⟨w.heap.size + 1, 1, none⟩ = some (.int .i64 fr) ∧ W.cell? ⟨w.heap.size + 1, 2, none⟩ = some (.int .i64 tt) ∧ ASt w v g m c f n cf kd fr tt md L F W :=
  ⟨h.1.2.1, h.1.2.2.1, h.1.2.2.2, h.2.1.2.2.1, h.2.1.2.2.2.1, h⟩
theorem AS {w W : World} {v : Int} {g m c f n cf : Nat} {kd fr tt md : Int} {L : List Sp} {F : List Int} {p0 p1 p2 p3 p4 : Addr} {x0 x1 x2 x3 x4 : Value}
    (h : W.cell? p0 = some x0 ∧ W.cell? p1 = some x1 ∧ W.cell? p2 = some x2 ∧ W.cell? p3 = some x3 ∧ W.cell? p4 = some x4 ∧ ASt w v g m c f n cf kd fr tt md L F W) : ASt w v g m c f n cf kd fr tt md L F W := h.2.2.2.2.2
theorem ASt.alloc {w W : World} {v : Int} {g m c f n cf : Nat} {kd fr tt md : Int} {L : List Sp} {F : List Int} (h : ASt w v g m c f n cf kd fr tt md L F W) (o : Obj) : ASt w v g m c f n cf kd fr tt md L F (W.alloc o) := h.next ((Below.refl _ _).alloc (Nat.le_refl _) o)
theorem ASt.big {w W : World} {v : Int} {g m c f n cf : Nat} {kd fr tt md : Int} {L : List Sp} {F : List Int} (h : ASt w v g m c f n cf kd fr tt md L F W) : w.heap.size + 3 ≤ W.heap.size := h.2.2.1.1
theorem ASt.set3 {w W : World} {v : Int} {g m c f n cf : Nat} {kd fr tt md : Int} {L : List Sp} {F : List Int} (h : ASt w v g m c f n cf kd fr tt md L F W) {X : Nat} (hX : w.heap.size + 3 ≤ X) (hg : g < w.heap.size) (hf : f < w.heap.size) (y0 y1 y2 : Value) :
    ASt w v g m c f n cf kd fr tt md L F (((W.setCell ⟨X, 0, none⟩ y0).setCell ⟨X, 1, none⟩ y1).setCell ⟨X, 2, none⟩ y2) :=
  ((h.set (p := ⟨X, 0, none⟩) (by simp; omega) (by simp; omega) (by simp; omega) _).set (p := ⟨X, 1, none⟩) (by simp; omega) (by simp; omega) (by simp; omega) _).set (p := ⟨X, 2, none⟩) (by simp; omega) (by simp; omega) (by simp; omega) _
/-- The new directory's variable: its version and its forwards stand. -/
def XSt (w : World) (v : Int) (g m c f n cf : Nat) (kd fr tt md : Int) (L : List Sp) (F : List Int) (X : Nat) (x1 : Value) (f' cf' : Nat) (F' : List Int) (W : World) : Prop :=
  ASt w v g m c f n cf kd fr tt md L F W ∧ Box3 W X (.int .i64 (v + 1)) x1 (.slice (some ⟨f', 0, none⟩) n cf') ∧ Free W X ∧ RowN F' f' W ∧ Free W f' ∧ w.heap.size + 3 ≤ X ∧ w.heap.size + 3 ≤ f' ∧ f' ≠ X ∧ n ≤ cf' ∧ cf' ≤ maxLen
theorem XSt.mk_ {w W : World} {v : Int} {g m c f n cf : Nat} {kd fr tt md : Int} {L : List Sp} {F : List Int} {X f' cf' : Nat} {a0 a1 a2 : Value} (hA : ASt w v g m c f n cf kd fr tt md L F W) (hX : Box3 W X a0 a1 a2) (hF : Free W X) (hrow : RowN F f' W) (hfr : Free W f') (hX3 : w.heap.size + 3 ≤ X) (hf3 : w.heap.size + 3 ≤ f') (hne : f' ≠ X) (hc : n ≤ cf') (hm : cf' ≤ maxLen) (hg : g < w.heap.size) (hf : f < w.heap.size) :
    XSt w v g m c f n cf kd fr tt md L F X (.slice none 0 0) f' cf' F (((W.setCell ⟨X, 0, none⟩ (.int .i64 (v + 1))).setCell ⟨X, 1, none⟩ (.slice none 0 0)).setCell ⟨X, 2, none⟩ (.slice (some ⟨f', 0, none⟩) n cf')) := by
  obtain ⟨x3, x0, x1, x2⟩ := hX
  exact ⟨hA.set3 hX3 hg hf _ _ _, ⟨by simpa using x3, by simp [go_sem, x0], by simp [go_sem, x1], by simp [go_sem, x2]⟩, ((hF.set _ _).set _ _).set _ _, ((hrow.set (by simpa using hne) _).set (by simpa using hne) _).set (by simpa using hne) _, ((hfr.set _ _).set _ _).set _ _, hX3, hf3, hne, hc, hm⟩
theorem XSt.mkA {w W : World} {v : Int} {g m c f n cf : Nat} {kd fr tt md : Int} {L : List Sp} {F : List Int} {f' cf' : Nat} (hA : ASt w v g m c f n cf kd fr tt md L F W) (hrow : RowN F f' W) (hfr : Free W f') (hf3 : w.heap.size + 3 ≤ f') (hc : n ≤ cf') (hm : cf' ≤ maxLen) :
    XSt w v g m c f n cf kd fr tt md L F W.heap.size (.slice none 0 0) f' cf' F (W.alloc (.cells #[.int .i64 (v + 1), .slice none 0 0, .slice (some ⟨f', 0, none⟩) n cf'] 40)) := by
  have ba := (Below.refl W.heap.size W).alloc (Nat.le_refl _) (.cells #[.int .i64 (v + 1), .slice none 0 0, .slice (some ⟨f', 0, none⟩) n cf'] 40)
  exact ⟨hA.alloc _, Box3.new W _ _ _ 40, Free.new W _ 40, hrow.below ba hrow.1, hfr.below ba hrow.1, hA.big, hf3, Nat.ne_of_lt hrow.1, hc, hm⟩
theorem XSt.alloc {w W : World} {v : Int} {g m c f n cf : Nat} {kd fr tt md : Int} {L : List Sp} {F F' : List Int} {X f' cf' : Nat} {x1 : Value} (h : XSt w v g m c f n cf kd fr tt md L F X x1 f' cf' F' W) (o : Obj) : XSt w v g m c f n cf kd fr tt md L F X x1 f' cf' F' (W.alloc o) := by
  obtain ⟨h1, h2, h3, h4, h5, h6⟩ := h
  have ba := (Below.refl W.heap.size W).alloc (Nat.le_refl _) o
  exact ⟨h1.next ba, h2.below ba h2.1, h3.below ba h2.1, h4.below ba h4.1, h5.below ba h4.1, h6⟩
theorem XSt.next {w W W' : World} {v : Int} {g m c f n cf : Nat} {kd fr tt md : Int} {L : List Sp} {F F' : List Int} {X f' cf' : Nat} {x1 : Value} (h : XSt w v g m c f n cf kd fr tt md L F X x1 f' cf' F' W) (ba : Below W.heap.size W W') : XSt w v g m c f n cf kd fr tt md L F X x1 f' cf' F' W' := by
  obtain ⟨h1, h2, h3, h4, h5, h6⟩ := h
  exact ⟨h1.next ba, h2.below ba h2.1, h3.below ba h2.1, h4.below ba h4.1, h5.below ba h4.1, h6⟩
theorem Free.alloc' {W : World} {b : Nat} (h : Free W b) (hb : b < W.heap.size) (o : Obj) : Free (W.alloc o) b := h.alloc hb o
theorem RowN.readsN {F : List Int} {f n : Nat} {W : World} (h : RowN F f W) (hn : F.length = n) : Reads W W.heap.size (some ⟨f, 0, none⟩) n (ivs F) := hn ▸ h.reads
theorem ASt.rowN {w W : World} {v : Int} {g m c f n cf : Nat} {kd fr tt md : Int} {L : List Sp} {F : List Int} (h : ASt w v g m c f n cf kd fr tt md L F W) : RowN F f W := h.2.2.2.2.2.1
/-- Apply's answers: an error; or a good directory in new memory. -/
def RetA (n m : Nat) (v : Int) (w : World) (e : Ending) (w' : World) : Prop :=
  (∃ z : Int, z ≠ 0 ∧ e = .returned (.tuple #[.agg #[.int .i64 0, .slice none 0 0, .slice none 0 0], .int .i64 z]) ∧ Below w.heap.size w w') ∨
  (∃ (g c f cf : Nat) (L : List Sp) (F : List Int), e = .returned (.tuple #[.agg #[.int .i64 (v + 1), .slice (some ⟨g, 0, none⟩) L.length c, .slice (some ⟨f, 0, none⟩) F.length cf], .int .i64 0]) ∧
    GoodD L F ∧ F.length = n ∧ L.length ≤ m + 1 ∧ L.length ≤ c ∧ c ≤ maxLen ∧ F.length ≤ cf ∧ cf ≤ maxLen ∧ RowP L g w' ∧ RowN F f w' ∧ w.heap.size ≤ g ∧ w.heap.size ≤ f ∧ Below w.heap.size w w')
theorem ASt.under {w W W' : World} {v : Int} {g m c f n cf : Nat} {kd fr tt md : Int} {L : List Sp} {F : List Int} {B : Nat} (h : ASt w v g m c f n cf kd fr tt md L F W) (hB : w.heap.size + 3 ≤ B) (hg : g < w.heap.size) (hf : f < w.heap.size) (hb : Below B W W') : ASt w v g m c f n cf kd fr tt md L F W' := by
  obtain ⟨h1, h2, h3, h4, h5, h6, h7⟩ := h
  exact ⟨h1.below hb (by omega), h2.below hb (by omega), h3.below hb (by omega), h4.below hb (by omega), h5.below hb (by omega), h6.below hb (by omega), h7.trans (hb.mono (by omega))⟩
theorem XSt.under {w W W' : World} {v : Int} {g m c f n cf : Nat} {kd fr tt md : Int} {L : List Sp} {F F' : List Int} {X f' cf' : Nat} {x1 : Value} {B : Nat} (h : XSt w v g m c f n cf kd fr tt md L F X x1 f' cf' F' W) (hX : X < B) (hf' : f' < B) (hB : w.heap.size + 3 ≤ B) (hg : g < w.heap.size) (hf : f < w.heap.size) (hb : Below B W W') : XSt w v g m c f n cf kd fr tt md L F X x1 f' cf' F' W' := by
  obtain ⟨h1, h2, h3, h4, h5, h6⟩ := h
  exact ⟨h1.under hB hg hf hb, h2.below hb hX, h3.below hb hX, h4.below hb hf', h5.below hb hf', h6⟩
/-- The new directory's spans are put. -/
theorem XSt.put1 {w W : World} {v : Int} {g m c f n cf : Nat} {kd fr tt md : Int} {L : List Sp} {F F' : List Int} {X f' cf' : Nat} {x1 : Value} (h : XSt w v g m c f n cf kd fr tt md L F X x1 f' cf' F' W) (hg : g < w.heap.size) (hf : f < w.heap.size) (u : Value) : XSt w v g m c f n cf kd fr tt md L F X u f' cf' F' (W.setCell ⟨X, 1, none⟩ u) := by
  obtain ⟨h1, ⟨y3, y0, y1, y2⟩, h3, h4, h5, h6, h7, h8, h9⟩ := h
  exact ⟨h1.set (p := ⟨X, 1, none⟩) (by simp; omega) (by simp; omega) (by simp; omega) _, ⟨by simpa using y3, by simp [go_sem, y0], by simp [go_sem, y1], by simp [go_sem, y2]⟩, h3.set _ _, h4.set (by simpa using h8) _, h5.set _ _, h6, h7, h8, h9⟩
/-- A row's place is put. -/
theorem RowN.put {F : List Int} {f : Nat} {W : World} (h : RowN F f W) (k : Nat) (hk : k < F.length) (z : Int) : RowN (F.set k z) f (W.setCell ⟨f, k, none⟩ (.int .i64 z)) := by
  refine ⟨by simpa using h.1, fun j x hx => ?_⟩
  rw [List.getElem?_set] at hx
  split at hx
  · rename_i hjk
    subst hjk
    simp only [Option.some.injEq] at hx
    subst hx
    have h0 : k < F.length := hk
    have := h.2 k F[k] (List.getElem?_eq_getElem h0)
    simp [go_sem, this]
  · rename_i hjk
    have := h.2 j x hx
    simp [go_sem, this]
/-- The new directory's forward is put. -/
theorem XSt.putF {w W : World} {v : Int} {g m c f n cf : Nat} {kd fr tt md : Int} {L : List Sp} {F F' : List Int} {X f' cf' : Nat} {x1 : Value} (h : XSt w v g m c f n cf kd fr tt md L F X x1 f' cf' F' W) (hg : g < w.heap.size) (hf : f < w.heap.size) (k : Nat) (hk : k < F'.length) (z : Int) : XSt w v g m c f n cf kd fr tt md L F X x1 f' cf' (F'.set k z) (W.setCell ⟨f', k, none⟩ (.int .i64 z)) := by
  obtain ⟨h1, h2, h3, h4, h5, h6, h7, h8, h9⟩ := h
  exact ⟨h1.set (p := ⟨f', k, none⟩) (by simp; omega) (by simp; omega) (by simp; omega) _, h2.far (by simpa using Ne.symm h8) _, h3.set _ _, h4.put k hk z, h5.set _ _, h6, h7, h8, h9⟩
/-- A list of two spans stands fresh. -/
theorem RdP.two (W : World) (a b c d e f : Int) (t : TypeId) : RdP (W.alloc (.cells #[.int .i64 a, .int .i64 b, .int .i64 c, .int .i64 d, .int .i64 e, .int .i64 f] t)) (some ⟨W.heap.size, 0, none⟩) 2 [⟨a, b, c⟩, ⟨d, e, f⟩] := by
  refine ⟨rfl, fun _ => ⟨_, 0, rfl, fun j u hu => ?_⟩⟩
  simp only [cellsP] at hu
  have : j < 6 := by have := (List.getElem?_eq_some_iff.1 hu).1; simpa using this
  match j, this with
  | 0, _ | 1, _ | 2, _ | 3, _ | 4, _ | 5, _ => simp at hu; subst hu; simp [go_sem]
theorem RdP.one (W : World) (a b c : Int) (t : TypeId) : RdP (W.alloc (.cells #[.int .i64 a, .int .i64 b, .int .i64 c] t)) (some ⟨W.heap.size, 0, none⟩) 1 [⟨a, b, c⟩] := by
  refine ⟨rfl, fun _ => ⟨_, 0, rfl, fun j u hu => ?_⟩⟩
  simp only [cellsP] at hu
  have : j < 3 := by have := (List.getElem?_eq_some_iff.1 hu).1; simpa using this
  match j, this with
  | 0, _ | 1, _ | 2, _ => simp at hu; subst hu; simp [go_sem]
theorem RdP.below {W W' : World} {b o m B : Nat} {L : List Sp} (h : RdP W (some ⟨b, o, none⟩) m L) (hb : Below B W W') (hlt : b < B) : RdP W' (some ⟨b, o, none⟩) m L := by
  refine ⟨h.1, fun hm => ?_⟩
  obtain ⟨b', o', e, hc⟩ := h.2 hm
  simp only [Option.some.injEq, Addr.mk.injEq, and_true] at e
  obtain ⟨rfl, rfl⟩ := e
  exact ⟨_, _, rfl, fun j u hu => (hb.cell (p := ⟨b, o + j, none⟩) hlt).trans (hc j u hu)⟩
/-- While the new spans are made: the new directory's variable (its spans unknown), the cut span. -/
def KX (w : World) (v : Int) (g m c f n cf : Nat) (kd fr tt md : Int) (L : List Sp) (F : List Int) (X f' cf' : Nat) (F' : List Int) (S : Nat) (s0 s1 s2 : Int) (B : Nat) (W : World) : Prop :=
  (∃ x1, XSt w v g m c f n cf kd fr tt md L F X x1 f' cf' F' W) ∧ Box3 W S (.int .i64 s0) (.int .i64 s1) (.int .i64 s2) ∧ (X < B ∧ f' < B ∧ S < B ∧ w.heap.size + 3 ≤ B ∧ g < w.heap.size ∧ f < w.heap.size) ∧ B ≤ W.heap.size
section
variable {w W W' : World} {v : Int} {g m c f n cf : Nat} {kd fr tt md : Int} {L : List Sp} {F F' : List Int} {X f' cf' S B B' : Nat} {s0 s1 s2 : Int}
theorem KX.under (h : KX w v g m c f n cf kd fr tt md L F X f' cf' F' S s0 s1 s2 B W) (hB : B ≤ B') (hb : Below B' W W') : KX w v g m c f n cf kd fr tt md L F X f' cf' F' S s0 s1 s2 B W' := by
  obtain ⟨⟨x1, h1⟩, h2, ⟨a1, a2, a3, a4, a5, a6⟩, h4⟩ := h
  exact ⟨⟨x1, h1.under (B := B') (by omega) (by omega) (by omega) a5 a6 hb⟩, h2.below hb (by omega), ⟨a1, a2, a3, a4, a5, a6⟩, Nat.le_trans h4 hb.size⟩
theorem KX.nx (h : KX w v g m c f n cf kd fr tt md L F X f' cf' F' S s0 s1 s2 B W) (hb : Below W.heap.size W W') : KX w v g m c f n cf kd fr tt md L F X f' cf' F' S s0 s1 s2 B W' ∧ B ≤ W.heap.size := ⟨h.under h.2.2.2 hb, h.2.2.2⟩
theorem KX.alloc (h : KX w v g m c f n cf kd fr tt md L F X f' cf' F' S s0 s1 s2 B W) (o : Obj) : KX w v g m c f n cf kd fr tt md L F X f' cf' F' S s0 s1 s2 B (W.alloc o) := h.under h.2.2.2 ((Below.refl _ _).alloc (Nat.le_refl _) o)
theorem KX.st (h : KX w v g m c f n cf kd fr tt md L F X f' cf' F' S s0 s1 s2 B W) (u : Value) : XSt w v g m c f n cf kd fr tt md L F X u f' cf' F' (W.setCell ⟨X, 1, none⟩ u) := by
  obtain ⟨⟨x1, h1⟩, _, ⟨_, _, _, _, a5, a6⟩, _⟩ := h
  exact h1.put1 a5 a6 u
theorem KX.put1 (hSX : S ≠ X) (h : KX w v g m c f n cf kd fr tt md L F X f' cf' F' S s0 s1 s2 B W) (u : Value) : KX w v g m c f n cf kd fr tt md L F X f' cf' F' S s0 s1 s2 B (W.setCell ⟨X, 1, none⟩ u) :=
  ⟨⟨u, h.st u⟩, h.2.1.far (by simpa using hSX) u, h.2.2.1, by simpa using h.2.2.2⟩
theorem KX.cell1 (h : KX w v g m c f n cf kd fr tt md L F X f' cf' F' S s0 s1 s2 B W) : ∃ x1, W.cell? ⟨X, 1, none⟩ = some x1 := by
  obtain ⟨⟨x1, h1⟩, _⟩ := h
  exact ⟨x1, h1.2.1.2.2.1⟩
theorem KX.free1 (h : KX w v g m c f n cf kd fr tt md L F X f' cf' F' S s0 s1 s2 B W) : W.frozen? ⟨X, 1, none⟩ = false := by
  obtain ⟨⟨x1, h1⟩, _⟩ := h
  exact h1.2.2.1 1
theorem KX.rdt (h : KX w v g m c f n cf kd fr tt md L F X f' cf' F' S s0 s1 s2 B W) (hm : Hid (L.length = m)) {i : Nat} (hi : i ≤ m) : RdP W (some ⟨g, 0, none⟩) i (L.take i) := by
  obtain ⟨⟨x1, h1⟩, _⟩ := h
  have hr : RowP L g W := h1.1.2.2.2.2.1
  have := hr.rd
  rw [hm.out] at this
  exact this.take_ hi
/-- What region 19 loads. -/
theorem SX (h : KX w v g m c f n cf kd fr tt md L F X f' cf' F' S s0 s1 s2 B W) :
    W.cell? ⟨w.heap.size, 1, none⟩ = some (.slice (some ⟨g, 0, none⟩) m c) ∧ W.cell? ⟨S, 0, none⟩ = some (.int .i64 s0) ∧ W.cell? ⟨S, 1, none⟩ = some (.int .i64 s1) ∧ W.cell? ⟨w.heap.size + 1, 1, none⟩ = some (.int .i64 fr) ∧ W.cell? ⟨w.heap.size + 1, 2, none⟩ = some (.int .i64 tt) ∧ W.cell? ⟨w.heap.size + 1, 3, none⟩ = some (.int .i64 md) ∧ KX w v g m c f n cf kd fr tt md L F X f' cf' F' S s0 s1 s2 B W := by
  have h' := h
  obtain ⟨⟨x1, h1⟩, h2, _⟩ := h
  exact ⟨h1.1.1.2.2.1, h2.2.1, h2.2.2.1, h1.1.2.1.2.2.1, h1.1.2.1.2.2.2.1, h1.1.2.1.2.2.2.2, h'⟩
theorem XK {p0 p1 p2 p3 p4 p5 : Addr} {x0 x1 x2 x3 x4 x5 : Value}
    (h : W.cell? p0 = some x0 ∧ W.cell? p1 = some x1 ∧ W.cell? p2 = some x2 ∧ W.cell? p3 = some x3 ∧ W.cell? p4 = some x4 ∧ W.cell? p5 = some x5 ∧ KX w v g m c f n cf kd fr tt md L F X f' cf' F' S s0 s1 s2 B W) : KX w v g m c f n cf kd fr tt md L F X f' cf' F' S s0 s1 s2 B W := h.2.2.2.2.2.2
theorem KX.drew (hx : ∀ {x1 : Value}, XSt w v g m c f n cf kd fr tt md L F X x1 f' cf' F' W → XSt w v g m c f n cf kd fr tt md L F X x1 f' cf' F' W.drew) (h : KX w v g m c f n cf kd fr tt md L F X f' cf' F' S s0 s1 s2 B W) : KX w v g m c f n cf kd fr tt md L F X f' cf' F' S s0 s1 s2 B W.drew := by
  obtain ⟨⟨x1, h1⟩, h2, h3, h4⟩ := h
  exact ⟨⟨x1, hx h1⟩, h2, h3, h4⟩
theorem XSt.drew {x1 : Value} (h : XSt w v g m c f n cf kd fr tt md L F X x1 f' cf' F' W) : XSt w v g m c f n cf kd fr tt md L F X x1 f' cf' F' W.drew := ⟨h.1.drew, h.2.1, h.2.2.1, h.2.2.2.1, h.2.2.2.2.1, h.2.2.2.2.2⟩
end
end Go.Proofs.Ytaoiekcoiooghaa
