/- How far Parse of the program has come. -/
import Derived.Test.YtaoiekcoiooghaaHn3
namespace Go.Proofs.Ytaoiekcoiooghaa
open Go.RowKit
theorem Box4.far {W : World} {b : Nat} {x0 x1 x2 x3 : Value} (h : Box4 W b x0 x1 x2 x3) {p : Addr} (hp : b ≠ p.block) (u : Value) : Box4 (W.setCell p u) b x0 x1 x2 x3 := by
  have k : ∀ j, (W.setCell p u).cell? ⟨b, j, none⟩ = W.cell? ⟨b, j, none⟩ := fun j => World.cell?_of_block (Below.heap_setCell W p u b hp)
  exact ⟨by simpa using h.1, (k 0).trans h.2.1, (k 1).trans h.2.2.1, (k 2).trans h.2.2.2.1, (k 3).trans h.2.2.2.2⟩
theorem Free.set {W : World} {b : Nat} (h : Free W b) (p : Addr) (u : Value) : Free (W.setCell p u) b := fun j => by
  rw [World.frozen?_setCell]
  exact h j
/-- How far Parse has come: the result's variable is still zero, the handle's variable holds what has been read. -/
def PSt (w wx : World) (B : Nat) (A : Option Addr) (l : List UInt8) (x0 x1 x2 x3 : Int) : Prop :=
  Below w.heap.size w wx ∧ Box4 wx w.heap.size (.int .i64 0) (.int .i64 0) (.int .i64 0) (.int .i64 0) ∧ Free wx w.heap.size ∧ Box4 wx (w.heap.size + 1) (.int .i64 x0) (.int .i64 x1) (.int .i64 x2) (.int .i64 x3) ∧ Free wx (w.heap.size + 1) ∧
    Reads wx B A 16 (bvs l) ∧ B ≤ w.heap.size
section
variable {w wx : World} {B : Nat} {A : Option Addr} {l : List UInt8} {x0 x1 x2 x3 : Int}
theorem PSt.drew (h : PSt w wx B A l x0 x1 x2 x3) : PSt w wx.drew B A l x0 x1 x2 x3 := ⟨h.1.drew, h.2.1, h.2.2.1, h.2.2.2.1, h.2.2.2.2.1, h.2.2.2.2.2.1, h.2.2.2.2.2.2⟩
theorem PSt.alloc (h : PSt w wx B A l x0 x1 x2 x3) (o : Obj) : PSt w (wx.alloc o) B A l x0 x1 x2 x3 :=
  ⟨h.1.alloc h.1.size o, h.2.1.alloc o, h.2.2.1.alloc h.2.1.1 o, h.2.2.2.1.alloc o, h.2.2.2.2.1.alloc h.2.2.2.1.1 o, h.2.2.2.2.2.1.alloc (Nat.le_trans h.2.2.2.2.2.2 h.1.size) o, h.2.2.2.2.2.2⟩
theorem PSt.set_ (h : PSt w wx B A l x0 x1 x2 x3) (k : Nat) (u : Value) {y0 y1 y2 y3 : Int} (hb : Box4 (wx.setCell ⟨w.heap.size + 1, k, none⟩ u) (w.heap.size + 1) (.int .i64 y0) (.int .i64 y1) (.int .i64 y2) (.int .i64 y3)) :
    PSt w (wx.setCell ⟨w.heap.size + 1, k, none⟩ u) B A l y0 y1 y2 y3 :=
  ⟨h.1.setCell (by simp) u, h.2.1.far (by simp) u, h.2.2.1.set _ u, hb, h.2.2.2.2.1.set _ u, h.2.2.2.2.2.1.setCell (by have := h.2.2.2.2.2.2; simp; omega) u, h.2.2.2.2.2.2⟩
theorem PSt.set0 (h : PSt w wx B A l x0 x1 x2 x3) (v : Int) : PSt w (wx.setCell ⟨w.heap.size + 1, 0, none⟩ (.int .i64 v)) B A l v x1 x2 x3 := by
  obtain ⟨b0, b1, b2, b3, b4⟩ := h.2.2.2.1
  exact h.set_ 0 _ ⟨by simpa using b0, by simp [go_sem, b1], by simp [go_sem, b2], by simp [go_sem, b3], by simp [go_sem, b4]⟩
theorem PSt.set1 (h : PSt w wx B A l x0 x1 x2 x3) (v : Int) : PSt w (wx.setCell ⟨w.heap.size + 1, 1, none⟩ (.int .i64 v)) B A l x0 v x2 x3 := by
  obtain ⟨b0, b1, b2, b3, b4⟩ := h.2.2.2.1
  exact h.set_ 1 _ ⟨by simpa using b0, by simp [go_sem, b1], by simp [go_sem, b2], by simp [go_sem, b3], by simp [go_sem, b4]⟩
theorem PSt.set2 (h : PSt w wx B A l x0 x1 x2 x3) (v : Int) : PSt w (wx.setCell ⟨w.heap.size + 1, 2, none⟩ (.int .i64 v)) B A l x0 x1 v x3 := by
  obtain ⟨b0, b1, b2, b3, b4⟩ := h.2.2.2.1
  exact h.set_ 2 _ ⟨by simpa using b0, by simp [go_sem, b1], by simp [go_sem, b2], by simp [go_sem, b3], by simp [go_sem, b4]⟩
theorem PSt.set3 (h : PSt w wx B A l x0 x1 x2 x3) (v : Int) : PSt w (wx.setCell ⟨w.heap.size + 1, 3, none⟩ (.int .i64 v)) B A l x0 x1 x2 v := by
  obtain ⟨b0, b1, b2, b3, b4⟩ := h.2.2.2.1
  exact h.set_ 3 _ ⟨by simpa using b0, by simp [go_sem, b1], by simp [go_sem, b2], by simp [go_sem, b3], by simp [go_sem, b4]⟩
end
theorem box_far (wx : World) (b k : Nat) (hb : b < wx.heap.size) (p u : Value) (s : Int) : ((wx.alloc (.cells #[p, .int .i64 s] 117)).setCell ⟨b, k, none⟩ u).cell? ⟨wx.heap.size, 1, none⟩ = some (.int .i64 s) := by
  rw [World.cell?_of_block (Below.heap_setCell _ ⟨b, k, none⟩ u wx.heap.size (by simp; omega))]
  simp [World.cell?_alloc_new]
end Go.Proofs.Ytaoiekcoiooghaa
