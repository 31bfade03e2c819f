/- The builders' Directory: what is held on the way. No condition. -/
import Derived.Test.YtaoiekcoiooghaaDr7
namespace Go.Proofs.Ytaoiekcoiooghaa
open Go.RowKit
/-- Apply's contract, as Dr5 shows it. -/
def ApplyC : Prop := ∀ (L : List Sp) (F : List Int) (_ : GoodD L F) (m n : Nat) (_ : L.length = m) (_ : F.length = n) (_ : m ≤ 50) (g c f cf : Nat) (_ : m ≤ c) (_ : c ≤ maxLen) (v : Int) (_ : 1 ≤ v ∧ v ≤ 500) (kd fr tt md : Int) (_ : kd = 1 ∨ kd = 2) (_ : 0 ≤ fr ∧ fr < (n : Int)) (_ : 0 ≤ tt ∧ tt < (n : Int)) (_ : 0 ≤ md ∧ md ≤ 65534) (w : World) (_ : RowP L g w) (_ : RowN F f w),
  Calls Try.prog 94 #[.agg #[.int .i64 v, .slice (some ⟨g, 0, none⟩) m c, .slice (some ⟨f, 0, none⟩) n cf], .agg #[.int .i64 kd, .int .i64 fr, .int .i64 tt, .int .i64 md]] w (RetA n m v w)
/-- Three values are a good directory of n slots, in memory made since w, and not in the block D; i more edits may come. -/
def DirC (w : World) (n i D : Nat) (y0 y1 y2 : Value) (W : World) : Prop := ∃ (v : Int) (g c f cf : Nat) (L : List Sp) (F : List Int),
  (y0 = .int .i64 v ∧ y1 = .slice (some ⟨g, 0, none⟩) L.length c ∧ y2 = .slice (some ⟨f, 0, none⟩) F.length cf) ∧ GoodD L F ∧ F.length = n ∧ (L.length + i ≤ 14 ∧ 1 ≤ v ∧ v + (i : Int) ≤ 9 ∧ L.length ≤ c ∧ c ≤ maxLen ∧ F.length ≤ cf ∧ cf ≤ maxLen) ∧ RowP L g W ∧ RowN F f W ∧ w.heap.size < g ∧ w.heap.size < f ∧ g ≠ D ∧ f ≠ D
theorem DirC.oth {w W W' : World} {n i D b : Nat} {y0 y1 y2 : Value} (h : DirC w n i D y0 y1 y2 W) (hb : b < w.heap.size) (ho : Oth W.heap.size b W W') : DirC w n i D y0 y1 y2 W' := by
  obtain ⟨v, g, c, f, cf, L, F, h1, h2, h3, h4, h5, h6, h7, h8, h9⟩ := h
  exact ⟨v, g, c, f, cf, L, F, h1, h2, h3, h4, h5.oth ho h5.1 (by omega), h6.oth ho h6.1 (by omega), h7, h8, h9⟩
theorem DirC.next {w W W' : World} {n i D : Nat} {y0 y1 y2 : Value} (h : DirC w n i D y0 y1 y2 W) (hb : Below W.heap.size W W') : DirC w n i D y0 y1 y2 W' := by
  obtain ⟨v, g, c, f, cf, L, F, h1, h2, h3, h4, h5, h6, h7, h8, h9⟩ := h
  exact ⟨v, g, c, f, cf, L, F, h1, h2, h3, h4, h5.below hb h5.1, h6.below hb h6.1, h7, h8, h9⟩
theorem DirC.set {w W : World} {n i D : Nat} {y0 y1 y2 : Value} (h : DirC w n i D y0 y1 y2 W) {p : Addr} (hp : p.block = D ∨ p.block < w.heap.size) (u : Value) : DirC w n i D y0 y1 y2 (W.setCell p u) := by
  obtain ⟨v, g, c, f, cf, L, F, h1, h2, h3, h4, h5, h6, h7, h8, h9, h10⟩ := h
  exact ⟨v, g, c, f, cf, L, F, h1, h2, h3, h4, h5.set (by omega) u, h6.set (by omega) u, h7, h8, h9, h10⟩
theorem DirC.less {w W : World} {n i D : Nat} {y0 y1 y2 : Value} (h : DirC w n (i + 1) D y0 y1 y2 W) : DirC w n i D y0 y1 y2 W := by
  obtain ⟨v, g, c, f, cf, L, F, h1, h2, h3, ⟨a1, a2, a3, a4⟩, h5⟩ := h
  exact ⟨v, g, c, f, cf, L, F, h1, h2, h3, ⟨by omega, a2, by omega, a4⟩, h5⟩
/-- While Directory runs: the result's variable (empty), the directory's variable D, the reader of numbers. -/
def DSt (w : World) (b n i D : Nat) (W : World) : Prop := ∃ y0 y1 y2 : Value,
  Box3 W w.heap.size (.int .i64 0) (.slice none 0 0) (.slice none 0 0) ∧ Free W w.heap.size ∧ Box3 W D y0 y1 y2 ∧ Free W D ∧ DirC w n i D y0 y1 y2 W ∧ w.heap.size < D ∧ Src W b ∧ b < w.heap.size ∧ Oth w.heap.size b w W
theorem DSt.oth {w W W' : World} {b n i D : Nat} (h : DSt w b n i D W) (ho : Oth W.heap.size b W W') (hs : Src W' b) : DSt w b n i D W' := by
  obtain ⟨y0, y1, y2, h1, h2, h3, h4, h5, h6, h7, h8, h9⟩ := h
  exact ⟨y0, y1, y2, h1.oth ho h1.1 (by omega), free_oth h2 ho h1.1 (by omega), h3.oth ho h3.1 (by omega), free_oth h4 ho h3.1 (by omega), h5.oth h8 ho, h6, hs, h8, h9.trans (ho.mono h9.size)⟩
theorem DSt.next {w W W' : World} {b n i D : Nat} (h : DSt w b n i D W) (hb : Below W.heap.size W W') : DSt w b n i D W' := h.oth (oth_of hb b) (by
  obtain ⟨y0, y1, y2, h1, h2, h3, h4, h5, h6, h7, h8, h9⟩ := h
  exact h7.below hb h7.1)
theorem DSt.alloc {w W : World} {b n i D : Nat} (h : DSt w b n i D W) (o : Obj) : DSt w b n i D (W.alloc o) := h.next ((Below.refl _ _).alloc (Nat.le_refl _) o)
/-- The directory is put into its variable. -/
theorem DSt.put {w W : World} {b n i D : Nat} {z0 z1 z2 : Value} (h : DSt w b n (i + 1) D W) (hd : DirC w n i D z0 z1 z2 W) : DSt w b n i D (((W.setCell ⟨D, 0, none⟩ z0).setCell ⟨D, 1, none⟩ z1).setCell ⟨D, 2, none⟩ z2) := by
  obtain ⟨y0, y1, y2, h1, h2, ⟨d3, d0, d1, d2⟩, h4, h5, h6, h7, h8, h9⟩ := h
  exact ⟨z0, z1, z2, ((h1.far (by simp; omega) _).far (by simp; omega) _).far (by simp; omega) _, ((h2.set _ _).set _ _).set _ _, ⟨by simpa using d3, by simp [go_sem, d0], by simp [go_sem, d1], by simp [go_sem, d2]⟩, ((h4.set _ _).set _ _).set _ _, ((hd.set (.inl rfl) _).set (.inl rfl) _).set (.inl rfl) _, h6, ((h7.set (by simp; omega) _).set (by simp; omega) _).set (by simp; omega) _, h8,
    ((h9.setCell (.inr (by simp; omega)) _).setCell (.inr (by simp; omega)) _).setCell (.inr (by simp; omega)) _⟩
theorem DSt.less {w W : World} {b n i D : Nat} (h : DSt w b n (i + 1) D W) : DSt w b n i D W := by
  obtain ⟨y0, y1, y2, h1, h2, h3, h4, h5, h6, h7, h8, h9⟩ := h
  exact ⟨y0, y1, y2, h1, h2, h3, h4, h5.less, h6, h7, h8, h9⟩
/-- What Directory returns. -/
def RetDir (b : Nat) (w : World) (e : Ending) (w' : World) : Prop := ∃ (v : Int) (g c f cf : Nat) (L : List Sp) (F : List Int), e = .returned (.agg #[.int .i64 v, .slice (some ⟨g, 0, none⟩) L.length c, .slice (some ⟨f, 0, none⟩) F.length cf]) ∧
  GoodD L F ∧ L.length ≤ 14 ∧ L.length ≤ c ∧ c ≤ maxLen ∧ RowP L g w' ∧ w.heap.size ≤ g ∧ Oth w.heap.size b w w'
end Go.Proofs.Ytaoiekcoiooghaa
