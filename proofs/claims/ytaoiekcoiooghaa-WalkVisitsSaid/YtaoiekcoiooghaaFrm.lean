/- What each frame needs: an argument opened into what the walk is told of it. No condition. -/
import Derived.Test.YtaoiekcoiooghaaRows
import Derived.Test.YtaoiekcoiooghaaByt
import Derived.WalkKit
import Derived.ProofKit
import Derived.OpenShut
import Derived.ShutString
import Derived.ChangeOld
import Derived.Below
import Derived.Lib.SmallJoins
namespace Go.Proofs.Ytaoiekcoiooghaa
open Go.ChangeShapes Go.WideShapes Go.ChangeAt Go.RowKit Go.Joins Go.Deep
open Go.ChangeMaps (open_string shut_string)

theorem own : ownKnob Try.prog.godebug = none := by kernel_rfl
theorem laidOut : laidOutB Try.prog = true := by kernel_rfl

theorem reads_of_row {k : IntKind} {w : World} {x : Addr} {len cap : Nat} {zs : List Int} (hl : len ≤ cap) (hz : zs.length = cap) (hcell : ∀ i, i < zs.length → w.cell? (x.add i) = some (.int k (zs.getD i 0))) :
    Reads w w.heap.size (some x) len ((zs.take len).map (Value.int k)) := by
  refine ⟨by simp; omega, fun hn => ?_⟩
  obtain ⟨b, off, spot⟩ := x
  have hc := hcell 0 (by omega)
  have hspot : spot = none := by simpa [Addr.add] using World.cell?_spot hc
  subst hspot
  refine ⟨b, off, rfl, ?_, fun j u hu => ?_⟩
  · exact World.block_lt_of_cell? w _ (by simpa [Addr.add] using hc)
  · rw [List.getElem?_map, List.getElem?_take] at hu
    by_cases hj : j < len
    · rw [if_pos hj] at hu
      have hjz : j < zs.length := by omega
      rw [List.getElem?_eq_getElem hjz] at hu
      simp only [Option.map_some, Option.some.injEq] at hu
      subst hu
      have := hcell j hjz
      rw [add_plain] at this
      rw [this]
      simp [List.getD, List.getElem?_eq_getElem hjz]
    · rw [if_neg hj] at hu
      cases hu

theorem bytes_of_nums {zs : List Int} (hw : ∀ n ∈ zs, (Lit.int .u8 n).wf = true) : ∃ l : List UInt8, zs.map (Value.int .u8) = bvs l := by
  refine ⟨zs.map (fun n => UInt8.ofNat n.toNat), ?_⟩
  simp only [bvs, List.map_map]
  refine List.map_congr_left fun n hn => ?_
  have := bounds_u8 (hw n hn)
  simp only [Function.comp_apply, bv, UInt8.toNat_ofNat']
  exact int_eq (by omega)

section
variable {H : Type} {enc : TypeId × Value → H} {P : Program} {w : World} {base : Nat} {spare : Nat → Bool} {held : Bool}
theorem open_agg7 {r : Reach} {b0 : Nat} {t : TypeId} {f0 f1 f2 f3 f4 f5 f6 : Field} {v : Value} {d : DataW H} {p : List MemPlace} (hs : P.underlying t = some (.struct #[f0, f1, f2, f3, f4, f5, f6])) (hone : oneCellFields P #[f0, f1, f2, f3, f4, f5, f6] = true) (hC : P.cellsOf t = 7)
    (hv : Value.okWide P w r b0 t v) (h : DataW.Trod enc P w base spare held t v d p) :
    ∃ (v0 v1 v2 v3 v4 v5 v6 : Value) (y0 y1 y2 y3 y4 y5 y6 : DataW H × List MemPlace) (n : Nat), v = .agg #[v0, v1, v2, v3, v4, v5, v6] ∧ DataW.trod enc P w base spare held n f0.type [v0] = some y0 ∧ DataW.trod enc P w base spare held n f1.type [v1] = some y1 ∧ DataW.trod enc P w base spare held n f2.type [v2] = some y2 ∧ DataW.trod enc P w base spare held n f3.type [v3] = some y3 ∧ DataW.trod enc P w base spare held n f4.type [v4] = some y4 ∧ DataW.trod enc P w base spare held n f5.type [v5] = some y5 ∧ DataW.trod enc P w base spare held n f6.type [v6] = some y6 := by
  obtain ⟨cs, rfl, hsz⟩ := okWide_struct hs hv
  obtain ⟨l⟩ := cs
  match l, hsz.trans hC with
  | [c0, c1, c2, c3, c4, c5, c6], _ =>
    obtain ⟨fuel, hf⟩ := h
    obtain ⟨xs, n, _, hx, _, hlen, hg⟩ := DataW.trod_struct hs hf
    obtain ⟨o0, k0⟩ := hone_of hone 0 f0 rfl
    obtain ⟨o1, k1⟩ := hone_of hone 1 f1 rfl
    obtain ⟨o2, k2⟩ := hone_of hone 2 f2 rfl
    obtain ⟨o3, k3⟩ := hone_of hone 3 f3 rfl
    obtain ⟨o4, k4⟩ := hone_of hone 4 f4 rfl
    obtain ⟨o5, k5⟩ := hone_of hone 5 f5 rfl
    obtain ⟨o6, k6⟩ := hone_of hone 6 f6 rfl
    match xs, hlen with
    | [y0, y1, y2, y3, y4, y5, y6], _ =>
      exact ⟨c0, c1, c2, c3, c4, c5, c6, y0, y1, y2, y3, y4, y5, y6, n, rfl, by simpa [Value.cells, o0, k0] using hg 0 f0 rfl, by simpa [Value.cells, o1, k1] using hg 1 f1 rfl, by simpa [Value.cells, o2, k2] using hg 2 f2 rfl, by simpa [Value.cells, o3, k3] using hg 3 f3 rfl, by simpa [Value.cells, o4, k4] using hg 4 f4 rfl, by simpa [Value.cells, o5, k5] using hg 5 f5 rfl, by simpa [Value.cells, o6, k6] using hg 6 f6 rfl⟩
end

set_option maxRecDepth 100000 in
/-- A slice of bytes that came in. -/
theorem open_bytes {H : Type} {enc : TypeId × Value → H} {W : World} {b : Nat} {v : Value} {d : DataW H} {p : List MemPlace} (hval : Value.okWide Try.prog W .any b 47 v) (h : DataW.Trod enc Try.prog W 0 (fun _ => true) true 47 v d p) :
    ∃ (A : Option Addr) (n c : Nat) (l : List UInt8), v = .slice A n c ∧ Reads W W.heap.size A n (bvs l) ∧ n ≤ c ∧ c ≤ maxLen := by
  obtain ⟨A, n, c, rfl⟩ := okWide_slice Try.underlying47 hval
  obtain ⟨fuel, hf⟩ := h
  rcases open_ints Try.underlying47 Try.underlying5 (by kernel_rfl) hf with ⟨hcs, _⟩ | ⟨x, l, c', zs, hcs, _, hl, hm, hz, _, hcell, hwz⟩
  · simp [Value.cells] at hcs
    obtain ⟨rfl, rfl, rfl⟩ := hcs
    exact ⟨none, 0, 0, [], rfl, Reads.none_, Nat.le_refl _, Nat.zero_le _⟩
  · simp [Value.cells] at hcs
    obtain ⟨rfl, rfl, rfl⟩ := hcs
    have hr := reads_of_row hl (by simpa using hz) hcell
    obtain ⟨m, hb⟩ := bytes_of_nums (zs := zs.take n) (fun x hx => hwz x (List.mem_of_mem_take hx))
    rw [hb] at hr
    exact ⟨_, n, c, m, rfl, hr, hl, hm⟩

set_option maxRecDepth 100000 in
/-- A slice of integers that came in. -/
theorem open_nums {H : Type} {enc : TypeId × Value → H} {W : World} {b : Nat} {v : Value} {d : DataW H} {p : List MemPlace} (hval : Value.okWide Try.prog W .any b 24 v) (h : DataW.Trod enc Try.prog W 0 (fun _ => true) true 24 v d p) :
    ∃ (A : Option Addr) (n c : Nat) (l : List Int), v = .slice A n c ∧ Reads W W.heap.size A n (ivs l) ∧ n ≤ c ∧ c ≤ maxLen ∧ ∀ x ∈ l, -9223372036854775808 ≤ x ∧ x ≤ 9223372036854775807 := by
  obtain ⟨A, n, c, rfl⟩ := okWide_slice Try.underlying24 hval
  obtain ⟨fuel, hf⟩ := h
  rcases open_ints Try.underlying24 Try.underlying3 (by kernel_rfl) hf with ⟨hcs, _⟩ | ⟨x, l, c', zs, hcs, _, hl, hm, hz, _, hcell, hwz⟩
  · simp [Value.cells] at hcs
    obtain ⟨rfl, rfl, rfl⟩ := hcs
    exact ⟨none, 0, 0, [], rfl, Reads.none_, Nat.le_refl _, Nat.zero_le _, by simp⟩
  · simp [Value.cells] at hcs
    obtain ⟨rfl, rfl, rfl⟩ := hcs
    exact ⟨_, n, c, zs.take n, rfl, reads_of_row hl (by simpa using hz) hcell, hl, hm, fun x hx => bounds_i64 (hwz x (List.mem_of_mem_take hx))⟩

set_option maxRecDepth 100000 in
theorem open_num {H : Type} {enc : TypeId × Value → H} {W : World} {b : Nat} {v : Value} {d : DataW H} {p : List MemPlace} (hval : Value.okWide Try.prog W .any b 3 v) (h : DataW.Trod enc Try.prog W 0 (fun _ => true) true 3 v d p) :
    ∃ x : Int, v = .int .i64 x ∧ -9223372036854775808 ≤ x ∧ x ≤ 9223372036854775807 := by
  obtain ⟨x, hv, _, _, wx⟩ := open_int Try.underlying3 hval h
  exact ⟨x, hv, bounds_i64 wx⟩
set_option maxRecDepth 100000 in
theorem open_byte {H : Type} {enc : TypeId × Value → H} {W : World} {b : Nat} {v : Value} {d : DataW H} {p : List MemPlace} (hval : Value.okWide Try.prog W .any b 5 v) (h : DataW.Trod enc Try.prog W 0 (fun _ => true) true 5 v d p) :
    ∃ x : UInt8, v = .int .u8 (x.toNat : Int) := by
  obtain ⟨x, hv, _, _, wx⟩ := open_int Try.underlying5 hval h
  have := bounds_u8 wx
  exact ⟨UInt8.ofNat x.toNat, by rw [hv]; exact int_eq (by rw [UInt8.toNat_ofNat']; omega)⟩
set_option maxRecDepth 100000 in
theorem open_flag {H : Type} {enc : TypeId × Value → H} {W : World} {b : Nat} {v : Value} {d : DataW H} {p : List MemPlace} (hval : Value.okWide Try.prog W .any b 4 v) (h : DataW.Trod enc Try.prog W 0 (fun _ => true) true 4 v d p) :
    ∃ x : Bool, v = .bool x := by
  obtain ⟨x, hv, _, _⟩ := open_bool Try.underlying4 hval h
  exact ⟨x, hv⟩
set_option maxRecDepth 100000 in
theorem open_text {H : Type} {enc : TypeId × Value → H} {W : World} {b : Nat} {v : Value} {d : DataW H} {p : List MemPlace} (hval : Value.okWide Try.prog W .any b 9 v) (h : DataW.Trod enc Try.prog W 0 (fun _ => true) true 9 v d p) :
    ∃ x : ByteArray, v = .string x ∧ x.size ≤ maxLen := by
  obtain ⟨x, hv, _, _, wx⟩ := open_string Try.underlying9 hval h
  exact ⟨x, hv, wx⟩
set_option maxRecDepth 100000 in
theorem cell_num {H : Type} {enc : TypeId × Value → H} {W : World} {n : Nat} {v : Value} {y : DataW H × List MemPlace} (h : DataW.trod enc Try.prog W 0 (fun _ => true) true n 3 [v] = some y) :
    ∃ x : Int, v = .int .i64 x ∧ -9223372036854775808 ≤ x ∧ x ≤ 9223372036854775807 := by
  obtain ⟨a, e0, _, wa⟩ := DataW.trod_int Try.underlying3 h
  simp at e0
  exact ⟨a, e0, bounds_i64 wa⟩
set_option maxRecDepth 100000 in
theorem cell_text {H : Type} {enc : TypeId × Value → H} {W : World} {n : Nat} {v : Value} {y : DataW H × List MemPlace} (h : DataW.trod enc Try.prog W 0 (fun _ => true) true n 9 [v] = some y) :
    ∃ x : ByteArray, v = .string x := by
  obtain ⟨a, e0, _⟩ := DataW.trod_string Try.underlying9 h
  simp at e0
  exact ⟨a, e0⟩
set_option maxRecDepth 100000 in
/-- A walk of the program, a handle, a message, each by value. -/
theorem open_walk {H : Type} {enc : TypeId × Value → H} {W : World} {b : Nat} {v : Value} {d : DataW H} {p : List MemPlace} (hval : Value.okWide Try.prog W .any b 23 v) (h : DataW.Trod enc Try.prog W 0 (fun _ => true) true 23 v d p) :
    ∃ x y : Int, v = .agg #[.int .i64 x, .int .i64 y] ∧ (-9223372036854775808 ≤ x ∧ x ≤ 9223372036854775807) ∧ (-9223372036854775808 ≤ y ∧ y ≤ 9223372036854775807) := by
  obtain ⟨c0, c1, y0, y1, m, hv, _, _, h0, h1⟩ := open_agg2 Try.underlying23 (by kernel_rfl) (by kernel_rfl) hval h
  obtain ⟨x0, rfl, b0⟩ := cell_num h0
  obtain ⟨x1, rfl, b1⟩ := cell_num h1
  exact ⟨x0, x1, hv, b0, b1⟩
set_option maxRecDepth 100000 in
theorem open_handle {H : Type} {enc : TypeId × Value → H} {W : World} {b : Nat} {v : Value} {d : DataW H} {p : List MemPlace} (hval : Value.okWide Try.prog W .any b 58 v) (h : DataW.Trod enc Try.prog W 0 (fun _ => true) true 58 v d p) :
    ∃ x y z t : Int, v = .agg #[.int .i64 x, .int .i64 y, .int .i64 z, .int .i64 t] ∧ (-9223372036854775808 ≤ x ∧ x ≤ 9223372036854775807) ∧ (-9223372036854775808 ≤ y ∧ y ≤ 9223372036854775807) ∧ (-9223372036854775808 ≤ z ∧ z ≤ 9223372036854775807) ∧ (-9223372036854775808 ≤ t ∧ t ≤ 9223372036854775807) := by
  obtain ⟨c0, c1, c2, c3, y0, y1, y2, y3, m, hv, _, _, h0, h1, h2, h3⟩ := open_agg4 Try.underlying58 (by kernel_rfl) (by kernel_rfl) hval h
  obtain ⟨x0, rfl, b0⟩ := cell_num h0
  obtain ⟨x1, rfl, b1⟩ := cell_num h1
  obtain ⟨x2, rfl, b2⟩ := cell_num h2
  obtain ⟨x3, rfl, b3⟩ := cell_num h3
  exact ⟨x0, x1, x2, x3, hv, b0, b1, b2, b3⟩
set_option maxRecDepth 100000 in
theorem open_message {H : Type} {enc : TypeId × Value → H} {W : World} {b : Nat} {v : Value} {d : DataW H} {p : List MemPlace} (hval : Value.okWide Try.prog W .any b 75 v) (h : DataW.Trod enc Try.prog W 0 (fun _ => true) true 75 v d p) :
    ∃ (x0 x1 x2 x3 x4 x5 : Int) (s : ByteArray), v = .agg #[.int .i64 x0, .int .i64 x1, .int .i64 x2, .int .i64 x3, .int .i64 x4, .int .i64 x5, .string s] ∧ (-9223372036854775808 ≤ x0 ∧ x0 ≤ 9223372036854775807) ∧ (-9223372036854775808 ≤ x1 ∧ x1 ≤ 9223372036854775807) ∧ (-9223372036854775808 ≤ x2 ∧ x2 ≤ 9223372036854775807) ∧ (-9223372036854775808 ≤ x3 ∧ x3 ≤ 9223372036854775807) ∧ (-9223372036854775808 ≤ x4 ∧ x4 ≤ 9223372036854775807) ∧ (-9223372036854775808 ≤ x5 ∧ x5 ≤ 9223372036854775807) := by
  obtain ⟨c0, c1, c2, c3, c4, c5, c6, y0, y1, y2, y3, y4, y5, y6, m, hv, h0, h1, h2, h3, h4, h5, h6⟩ := open_agg7 Try.underlying75 (by kernel_rfl) (by kernel_rfl) hval h
  obtain ⟨x0, rfl, b0⟩ := cell_num h0
  obtain ⟨x1, rfl, b1⟩ := cell_num h1
  obtain ⟨x2, rfl, b2⟩ := cell_num h2
  obtain ⟨x3, rfl, b3⟩ := cell_num h3
  obtain ⟨x4, rfl, b4⟩ := cell_num h4
  obtain ⟨x5, rfl, b5⟩ := cell_num h5
  obtain ⟨x6, rfl⟩ := cell_text h6
  exact ⟨x0, x1, x2, x3, x4, x5, x6, hv, b0, b1, b2, b3, b4, b5⟩
end Go.Proofs.Ytaoiekcoiooghaa
