/- How far Decode of the messages has come: what the variables hold. -/
import Derived.Test.YtaoiekcoiooghaaMsf
import Derived.Test.YtaoiekcoiooghaaHn5
namespace Go.Proofs.Ytaoiekcoiooghaa
open Go.RowKit
section
variable {W W' : World} {B b : Nat} {x0 x1 x2 x3 x4 x5 : Int} {s : ByteArray}
theorem Box7.far (h : Box7 W b x0 x1 x2 x3 x4 x5 s) {q : Addr} (hq : b ≠ q.block) (u : Value) : Box7 (W.setCell q u) b x0 x1 x2 x3 x4 x5 s :=
  h.keep (by simp) fun j => World.cell?_of_block (Below.heap_setCell W q u b hq)
theorem Box6.far (h : Box6 W b x0 x1 x2 x3 x4 x5) {q : Addr} (hq : b ≠ q.block) (u : Value) : Box6 (W.setCell q u) b x0 x1 x2 x3 x4 x5 :=
  h.keep (by simp) fun j => World.cell?_of_block (Below.heap_setCell W q u b hq)
theorem Box7.set0 (h : Box7 W b x0 x1 x2 x3 x4 x5 s) (v : Int) : Box7 (W.setCell ⟨b, 0, none⟩ (.int .i64 v)) b v x1 x2 x3 x4 x5 s := by
  obtain ⟨b7, b0, b1, b2, b3, b4, b5, b6⟩ := h
  exact ⟨by simpa using b7, by simp [go_sem, b0], by simp [go_sem, b1], by simp [go_sem, b2], by simp [go_sem, b3], by simp [go_sem, b4], by simp [go_sem, b5], by simp [go_sem, b6]⟩
theorem Box6.set0 (h : Box6 W b x0 x1 x2 x3 x4 x5) (v : Int) : Box6 (W.setCell ⟨b, 0, none⟩ (.int .i64 v)) b v x1 x2 x3 x4 x5 := by
  obtain ⟨b7, b0, b1, b2, b3, b4, b5⟩ := h
  exact ⟨by simpa using b7, by simp [go_sem, b0], by simp [go_sem, b1], by simp [go_sem, b2], by simp [go_sem, b3], by simp [go_sem, b4], by simp [go_sem, b5]⟩
theorem Box7.set1 (h : Box7 W b x0 x1 x2 x3 x4 x5 s) (v : Int) : Box7 (W.setCell ⟨b, 1, none⟩ (.int .i64 v)) b x0 v x2 x3 x4 x5 s := by
  obtain ⟨b7, b0, b1, b2, b3, b4, b5, b6⟩ := h
  exact ⟨by simpa using b7, by simp [go_sem, b0], by simp [go_sem, b1], by simp [go_sem, b2], by simp [go_sem, b3], by simp [go_sem, b4], by simp [go_sem, b5], by simp [go_sem, b6]⟩
theorem Box6.set1 (h : Box6 W b x0 x1 x2 x3 x4 x5) (v : Int) : Box6 (W.setCell ⟨b, 1, none⟩ (.int .i64 v)) b x0 v x2 x3 x4 x5 := by
  obtain ⟨b7, b0, b1, b2, b3, b4, b5⟩ := h
  exact ⟨by simpa using b7, by simp [go_sem, b0], by simp [go_sem, b1], by simp [go_sem, b2], by simp [go_sem, b3], by simp [go_sem, b4], by simp [go_sem, b5]⟩
theorem Box7.set2 (h : Box7 W b x0 x1 x2 x3 x4 x5 s) (v : Int) : Box7 (W.setCell ⟨b, 2, none⟩ (.int .i64 v)) b x0 x1 v x3 x4 x5 s := by
  obtain ⟨b7, b0, b1, b2, b3, b4, b5, b6⟩ := h
  exact ⟨by simpa using b7, by simp [go_sem, b0], by simp [go_sem, b1], by simp [go_sem, b2], by simp [go_sem, b3], by simp [go_sem, b4], by simp [go_sem, b5], by simp [go_sem, b6]⟩
theorem Box6.set2 (h : Box6 W b x0 x1 x2 x3 x4 x5) (v : Int) : Box6 (W.setCell ⟨b, 2, none⟩ (.int .i64 v)) b x0 x1 v x3 x4 x5 := by
  obtain ⟨b7, b0, b1, b2, b3, b4, b5⟩ := h
  exact ⟨by simpa using b7, by simp [go_sem, b0], by simp [go_sem, b1], by simp [go_sem, b2], by simp [go_sem, b3], by simp [go_sem, b4], by simp [go_sem, b5]⟩
theorem Box7.set3 (h : Box7 W b x0 x1 x2 x3 x4 x5 s) (v : Int) : Box7 (W.setCell ⟨b, 3, none⟩ (.int .i64 v)) b x0 x1 x2 v x4 x5 s := by
  obtain ⟨b7, b0, b1, b2, b3, b4, b5, b6⟩ := h
  exact ⟨by simpa using b7, by simp [go_sem, b0], by simp [go_sem, b1], by simp [go_sem, b2], by simp [go_sem, b3], by simp [go_sem, b4], by simp [go_sem, b5], by simp [go_sem, b6]⟩
theorem Box6.set3 (h : Box6 W b x0 x1 x2 x3 x4 x5) (v : Int) : Box6 (W.setCell ⟨b, 3, none⟩ (.int .i64 v)) b x0 x1 x2 v x4 x5 := by
  obtain ⟨b7, b0, b1, b2, b3, b4, b5⟩ := h
  exact ⟨by simpa using b7, by simp [go_sem, b0], by simp [go_sem, b1], by simp [go_sem, b2], by simp [go_sem, b3], by simp [go_sem, b4], by simp [go_sem, b5]⟩
theorem Box7.set4 (h : Box7 W b x0 x1 x2 x3 x4 x5 s) (v : Int) : Box7 (W.setCell ⟨b, 4, none⟩ (.int .i64 v)) b x0 x1 x2 x3 v x5 s := by
  obtain ⟨b7, b0, b1, b2, b3, b4, b5, b6⟩ := h
  exact ⟨by simpa using b7, by simp [go_sem, b0], by simp [go_sem, b1], by simp [go_sem, b2], by simp [go_sem, b3], by simp [go_sem, b4], by simp [go_sem, b5], by simp [go_sem, b6]⟩
theorem Box6.set4 (h : Box6 W b x0 x1 x2 x3 x4 x5) (v : Int) : Box6 (W.setCell ⟨b, 4, none⟩ (.int .i64 v)) b x0 x1 x2 x3 v x5 := by
  obtain ⟨b7, b0, b1, b2, b3, b4, b5⟩ := h
  exact ⟨by simpa using b7, by simp [go_sem, b0], by simp [go_sem, b1], by simp [go_sem, b2], by simp [go_sem, b3], by simp [go_sem, b4], by simp [go_sem, b5]⟩
theorem Box7.set5 (h : Box7 W b x0 x1 x2 x3 x4 x5 s) (v : Int) : Box7 (W.setCell ⟨b, 5, none⟩ (.int .i64 v)) b x0 x1 x2 x3 x4 v s := by
  obtain ⟨b7, b0, b1, b2, b3, b4, b5, b6⟩ := h
  exact ⟨by simpa using b7, by simp [go_sem, b0], by simp [go_sem, b1], by simp [go_sem, b2], by simp [go_sem, b3], by simp [go_sem, b4], by simp [go_sem, b5], by simp [go_sem, b6]⟩
theorem Box6.set5 (h : Box6 W b x0 x1 x2 x3 x4 x5) (v : Int) : Box6 (W.setCell ⟨b, 5, none⟩ (.int .i64 v)) b x0 x1 x2 x3 x4 v := by
  obtain ⟨b7, b0, b1, b2, b3, b4, b5⟩ := h
  exact ⟨by simpa using b7, by simp [go_sem, b0], by simp [go_sem, b1], by simp [go_sem, b2], by simp [go_sem, b3], by simp [go_sem, b4], by simp [go_sem, b5]⟩
theorem Box7.set6 (h : Box7 W b x0 x1 x2 x3 x4 x5 s) (v : ByteArray) : Box7 (W.setCell ⟨b, 6, none⟩ (.string v)) b x0 x1 x2 x3 x4 x5 v := by
  obtain ⟨b7, b0, b1, b2, b3, b4, b5, b6⟩ := h
  exact ⟨by simpa using b7, by simp [go_sem, b0], by simp [go_sem, b1], by simp [go_sem, b2], by simp [go_sem, b3], by simp [go_sem, b4], by simp [go_sem, b5], by simp [go_sem, b6]⟩
end
/-- Decode of the program: the result's variable is still zero, the message's variable holds what has been read. -/
def DSt (w W : World) (B n : Nat) (A : Option Addr) (l : List UInt8) (x0 x1 x2 x3 x4 x5 : Int) (s : ByteArray) : Prop :=
  Below w.heap.size w W ∧ Box7 W w.heap.size 0 0 0 0 0 0 ⟨#[]⟩ ∧ Free W w.heap.size ∧ Box7 W (w.heap.size + 1) x0 x1 x2 x3 x4 x5 s ∧ Free W (w.heap.size + 1) ∧ Reads W B A n (bvs l) ∧ B ≤ w.heap.size
/-- Decode of the reference: the same with an array of six numbers. -/
def ESt (w W : World) (B n : Nat) (A : Option Addr) (l : List UInt8) (x0 x1 x2 x3 x4 x5 : Int) : Prop :=
  Below w.heap.size w W ∧ Box7 W w.heap.size 0 0 0 0 0 0 ⟨#[]⟩ ∧ Free W w.heap.size ∧ Box6 W (w.heap.size + 1) x0 x1 x2 x3 x4 x5 ∧ Free W (w.heap.size + 1) ∧ Reads W B A n (bvs l) ∧ B ≤ w.heap.size
section
variable {w W : World} {B n : Nat} {A : Option Addr} {l : List UInt8} {x0 x1 x2 x3 x4 x5 : Int} {s : ByteArray}
theorem DSt.set0 (h : DSt w W B n A l x0 x1 x2 x3 x4 x5 s) (v : Int) : DSt w (W.setCell ⟨w.heap.size + 1, 0, none⟩ (.int .i64 v)) B n A l v x1 x2 x3 x4 x5 s :=
  ⟨h.1.setCell (by simp) _, h.2.1.far (by simp) _, h.2.2.1.set _ _, h.2.2.2.1.set0 v, h.2.2.2.2.1.set _ _, h.2.2.2.2.2.1.setCell (by have := h.2.2.2.2.2.2; simp; omega) _, h.2.2.2.2.2.2⟩
theorem ESt.set0 (h : ESt w W B n A l x0 x1 x2 x3 x4 x5) (v : Int) : ESt w (W.setCell ⟨w.heap.size + 1, 0, none⟩ (.int .i64 v)) B n A l v x1 x2 x3 x4 x5 :=
  ⟨h.1.setCell (by simp) _, h.2.1.far (by simp) _, h.2.2.1.set _ _, h.2.2.2.1.set0 v, h.2.2.2.2.1.set _ _, h.2.2.2.2.2.1.setCell (by have := h.2.2.2.2.2.2; simp; omega) _, h.2.2.2.2.2.2⟩
theorem DSt.set1 (h : DSt w W B n A l x0 x1 x2 x3 x4 x5 s) (v : Int) : DSt w (W.setCell ⟨w.heap.size + 1, 1, none⟩ (.int .i64 v)) B n A l x0 v x2 x3 x4 x5 s :=
  ⟨h.1.setCell (by simp) _, h.2.1.far (by simp) _, h.2.2.1.set _ _, h.2.2.2.1.set1 v, h.2.2.2.2.1.set _ _, h.2.2.2.2.2.1.setCell (by have := h.2.2.2.2.2.2; simp; omega) _, h.2.2.2.2.2.2⟩
theorem ESt.set1 (h : ESt w W B n A l x0 x1 x2 x3 x4 x5) (v : Int) : ESt w (W.setCell ⟨w.heap.size + 1, 1, none⟩ (.int .i64 v)) B n A l x0 v x2 x3 x4 x5 :=
  ⟨h.1.setCell (by simp) _, h.2.1.far (by simp) _, h.2.2.1.set _ _, h.2.2.2.1.set1 v, h.2.2.2.2.1.set _ _, h.2.2.2.2.2.1.setCell (by have := h.2.2.2.2.2.2; simp; omega) _, h.2.2.2.2.2.2⟩
theorem DSt.set2 (h : DSt w W B n A l x0 x1 x2 x3 x4 x5 s) (v : Int) : DSt w (W.setCell ⟨w.heap.size + 1, 2, none⟩ (.int .i64 v)) B n A l x0 x1 v x3 x4 x5 s :=
  ⟨h.1.setCell (by simp) _, h.2.1.far (by simp) _, h.2.2.1.set _ _, h.2.2.2.1.set2 v, h.2.2.2.2.1.set _ _, h.2.2.2.2.2.1.setCell (by have := h.2.2.2.2.2.2; simp; omega) _, h.2.2.2.2.2.2⟩
theorem ESt.set2 (h : ESt w W B n A l x0 x1 x2 x3 x4 x5) (v : Int) : ESt w (W.setCell ⟨w.heap.size + 1, 2, none⟩ (.int .i64 v)) B n A l x0 x1 v x3 x4 x5 :=
  ⟨h.1.setCell (by simp) _, h.2.1.far (by simp) _, h.2.2.1.set _ _, h.2.2.2.1.set2 v, h.2.2.2.2.1.set _ _, h.2.2.2.2.2.1.setCell (by have := h.2.2.2.2.2.2; simp; omega) _, h.2.2.2.2.2.2⟩
theorem DSt.set3 (h : DSt w W B n A l x0 x1 x2 x3 x4 x5 s) (v : Int) : DSt w (W.setCell ⟨w.heap.size + 1, 3, none⟩ (.int .i64 v)) B n A l x0 x1 x2 v x4 x5 s :=
  ⟨h.1.setCell (by simp) _, h.2.1.far (by simp) _, h.2.2.1.set _ _, h.2.2.2.1.set3 v, h.2.2.2.2.1.set _ _, h.2.2.2.2.2.1.setCell (by have := h.2.2.2.2.2.2; simp; omega) _, h.2.2.2.2.2.2⟩
theorem ESt.set3 (h : ESt w W B n A l x0 x1 x2 x3 x4 x5) (v : Int) : ESt w (W.setCell ⟨w.heap.size + 1, 3, none⟩ (.int .i64 v)) B n A l x0 x1 x2 v x4 x5 :=
  ⟨h.1.setCell (by simp) _, h.2.1.far (by simp) _, h.2.2.1.set _ _, h.2.2.2.1.set3 v, h.2.2.2.2.1.set _ _, h.2.2.2.2.2.1.setCell (by have := h.2.2.2.2.2.2; simp; omega) _, h.2.2.2.2.2.2⟩
theorem DSt.set4 (h : DSt w W B n A l x0 x1 x2 x3 x4 x5 s) (v : Int) : DSt w (W.setCell ⟨w.heap.size + 1, 4, none⟩ (.int .i64 v)) B n A l x0 x1 x2 x3 v x5 s :=
  ⟨h.1.setCell (by simp) _, h.2.1.far (by simp) _, h.2.2.1.set _ _, h.2.2.2.1.set4 v, h.2.2.2.2.1.set _ _, h.2.2.2.2.2.1.setCell (by have := h.2.2.2.2.2.2; simp; omega) _, h.2.2.2.2.2.2⟩
theorem ESt.set4 (h : ESt w W B n A l x0 x1 x2 x3 x4 x5) (v : Int) : ESt w (W.setCell ⟨w.heap.size + 1, 4, none⟩ (.int .i64 v)) B n A l x0 x1 x2 x3 v x5 :=
  ⟨h.1.setCell (by simp) _, h.2.1.far (by simp) _, h.2.2.1.set _ _, h.2.2.2.1.set4 v, h.2.2.2.2.1.set _ _, h.2.2.2.2.2.1.setCell (by have := h.2.2.2.2.2.2; simp; omega) _, h.2.2.2.2.2.2⟩
theorem DSt.set5 (h : DSt w W B n A l x0 x1 x2 x3 x4 x5 s) (v : Int) : DSt w (W.setCell ⟨w.heap.size + 1, 5, none⟩ (.int .i64 v)) B n A l x0 x1 x2 x3 x4 v s :=
  ⟨h.1.setCell (by simp) _, h.2.1.far (by simp) _, h.2.2.1.set _ _, h.2.2.2.1.set5 v, h.2.2.2.2.1.set _ _, h.2.2.2.2.2.1.setCell (by have := h.2.2.2.2.2.2; simp; omega) _, h.2.2.2.2.2.2⟩
theorem ESt.set5 (h : ESt w W B n A l x0 x1 x2 x3 x4 x5) (v : Int) : ESt w (W.setCell ⟨w.heap.size + 1, 5, none⟩ (.int .i64 v)) B n A l x0 x1 x2 x3 x4 v :=
  ⟨h.1.setCell (by simp) _, h.2.1.far (by simp) _, h.2.2.1.set _ _, h.2.2.2.1.set5 v, h.2.2.2.2.1.set _ _, h.2.2.2.2.2.1.setCell (by have := h.2.2.2.2.2.2; simp; omega) _, h.2.2.2.2.2.2⟩
theorem DSt.set6 (h : DSt w W B n A l x0 x1 x2 x3 x4 x5 s) (v : ByteArray) : DSt w (W.setCell ⟨w.heap.size + 1, 6, none⟩ (.string v)) B n A l x0 x1 x2 x3 x4 x5 v :=
  ⟨h.1.setCell (by simp) _, h.2.1.far (by simp) _, h.2.2.1.set _ _, h.2.2.2.1.set6 v, h.2.2.2.2.1.set _ _, h.2.2.2.2.2.1.setCell (by have := h.2.2.2.2.2.2; simp; omega) _, h.2.2.2.2.2.2⟩
end
/-- What Decode returns. -/
def RetD (w : World) (l : List UInt8) (e : Ending) (w' : World) : Prop := e = .returned (.tuple #[decV l, .int .i64 (decE l)]) ∧ Below w.heap.size w w'
theorem dec_six {l : List UInt8} {xs : List Nat} {a k : Nat} (h : dec l k = some (xs, a)) {n : Nat} (hn : l.length = n) : a ≤ n := hn ▸ (dec_enc h).2.1
end Go.Proofs.Ytaoiekcoiooghaa
