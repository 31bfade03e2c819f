/- Plain laws of the receipt handles: what Encode gives, Parse takes back. -/
import Derived.Test.YtaoiekcoiooghaaHn7
namespace Go.Proofs.Ytaoiekcoiooghaa
open Go.RowKit
theorem pF_tok {i g r h : Nat} (hi : i < 4294967296) (hg : g < 16777216) (hr : r < 65536) (hh : h < 256) :
    pF0 (tok i g r h) = i ∧ pF1 (tok i g r h) = g ∧ pF2 (tok i g r h) = r ∧ pF3 (tok i g r h) = h := by
  have t0 : ((tok i g r h).drop 1).take 4 = be i 4 := by simp [tok, tok5, be]
  have t1 : ((tok i g r h).drop 5).take 3 = be g 3 := by simp [tok, tok5, be]
  have t2 : ((tok i g r h).drop 8).take 2 = be r 2 := by simp [tok, tok5, be]
  have t3 : ((tok i g r h).drop 10).take 1 = be h 1 := by simp [tok, tok5, be]
  unfold pF0 pF1 pF2 pF3
  rw [t0, t1, t2, t3]
  exact ⟨be_val _ _ hi, be_val _ _ hg, be_val _ _ hr, be_val _ _ hh⟩
theorem par_tok {i g r h : Int} (hk : HOk i g r h) : parV (tok i.toNat g.toNat r.toNat h.toNat) = .agg #[.int .i64 i, .int .i64 g, .int .i64 r, .int .i64 h] ∧ parE (tok i.toNat g.toNat r.toNat h.toNat) = 0 := by
  have hk' := hk
  obtain ⟨h1, h2, h3, h4, h5, h6, h7, h8⟩ := hk'
  obtain ⟨p0, p1, p2, p3⟩ := pF_tok (i := i.toNat) (g := g.toNat) (r := r.toNat) (h := h.toNat) (by omega) (by omega) (by omega) (by omega)
  have e0 : (i.toNat : Int) = i := by omega
  have e1 : (g.toNat : Int) = g := by omega
  have e2 : (r.toNat : Int) = r := by omega
  have e3 : (h.toNat : Int) = h := by omega
  have hp : ParOk (tok i.toNat g.toNat r.toNat h.toNat) := by
    refine ⟨tok_length _ _ _ _, ?_, ?_⟩
    · rw [p0, p1, p2, p3, e0, e1, e2, e3]; exact hk
    · rw [p0, p1, p2, p3]
  rw [parV, if_pos hp, parE, if_pos hp, p0, p1, p2, p3, e0, e1, e2, e3]
  exact ⟨rfl, rfl⟩
theorem Box4.put {W : World} {b : Nat} {x0 x1 x2 x3 : Value} (h : Box4 W b x0 x1 x2 x3) (y0 y1 y2 y3 : Value) :
    Box4 ((((W.setCell ⟨b, 0, none⟩ y0).setCell ⟨b, 1, none⟩ y1).setCell ⟨b, 2, none⟩ y2).setCell ⟨b, 3, none⟩ y3) b y0 y1 y2 y3 := by
  obtain ⟨b0, b1, b2, b3, b4⟩ := h
  exact ⟨by simpa using b0, by simp [go_sem, b1], by simp [go_sem, b2], by simp [go_sem, b3], by simp [go_sem, b4]⟩
end Go.Proofs.Ytaoiekcoiooghaa
