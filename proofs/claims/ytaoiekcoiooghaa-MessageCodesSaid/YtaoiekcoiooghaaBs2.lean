/- The contract of the builders' Body: some text of at most three bytes. No condition. -/
import Derived.Test.YtaoiekcoiooghaaBs1
import Derived.OwnWalk
namespace Go.Proofs.Ytaoiekcoiooghaa
open Go.RowKit
theorem OwnB.oth {w w' : World} {base bs : Nat} {v : Value} {l : List UInt8} (h : OwnB w base v l) (ho : Oth w.heap.size bs w w') (hb : bs < base) : OwnB w' base v l := by
  refine World.ownsRow.kept (row := some bs) h ⟨ho.os, ho.tape, ho.output, ho.size, fun k hk hn => ho.block k hk (fun e => hn (by rw [e]))⟩ ?_
  cases hv : v.ownBlock with
  | none => exact .inl rfl
  | some k => exact .inr (fun e => by have := (h.lt k hv).1; injection e with e; omega)
theorem made_bytes (n : Nat) : (madeCells (Value.int .u8 0).cells (n * 1)).toList = bvs (List.replicate n 0) := by
  refine List.ext_getElem? fun j => ?_
  by_cases hj : j < n
  · simp [madeCells, bvs, bv, Value.cells, hj, Nat.mod_one]
  · simp [madeCells, bvs, bv, Value.cells, hj]
theorem OwnB.setV {w : World} {base g n c : Nat} {l : List UInt8} (h : OwnB w base (.slice (some ⟨g, 0, none⟩) n c) l) {j : Nat} (hj : j < l.length) (V : Int) (h0 : 0 ≤ V) (h1 : V < 256) :
    ∃ l' : List UInt8, l'.length = l.length ∧ OwnB (w.setCell ⟨g, j, none⟩ (.int .u8 V)) base (.slice (some ⟨g, 0, none⟩) n c) l' := by
  obtain ⟨g', c', hv, _, _, _, _, _, _, hst⟩ := h.head (by omega)
  have hgg : g = g' := by injection hv with hv _ _; injection hv with hv; injection hv with hv
  subst hgg
  have e : V = ((UInt8.ofNat V.toNat).toNat : Int) := by rw [UInt8.toNat_ofNat']; omega
  refine ⟨l.set j (UInt8.ofNat V.toNat), List.length_set, ?_⟩
  rw [e]
  have := hst j (UInt8.ofNat V.toNat)
  rw [← e] at this ⊢
  exact this
/-- What Body returns. -/
def RetY (b : Nat) (w : World) (e : Ending) (w' : World) : Prop := ∃ s : ByteArray, s.size ≤ 3 ∧ e = .returned (.string s) ∧ Src w' b ∧ Oth w.heap.size b w w'
set_option maxHeartbeats 4000000 in
set_option maxRecDepth 20000 in
theorem bbody_any (b : Nat) (w : World) (hs : Src w b) : Calls Try.prog 102 #[.pointer (some ⟨b, 0, none⟩)] w (RetY b w) := by
  obtain ⟨i0, hi0, hz0, hz1, hz2⟩ := info_parts info5
  have HS := hide hs
  clear hs
  go_enter Try.func102, Try.ntmps102
  go_wp2_with fail
  refine (bn_any b 4 w HS.out (by decide) (by decide)).mono ?_
  rintro e w1 ⟨x, hx1, hx2, rfl, S1, ho1⟩
  obtain ⟨n, rfl⟩ := Int.eq_ofNat_of_zero_le hx1
  have HS1 := hide S1
  have hn3 : n ≤ 3 := by omega
  have hb1 : b < w1.heap.size := S1.1
  clear S1 HS hx1 hx2
  have hcc1 : i0.bytes * n ≤ 281474976710656 := by rw [hz2]; omega
  have hcc2 : n ≤ maxLen := by unfold maxLen; omega
  go_wp2_with (first
    | (at_make; (refine wpList_make_full _ rfl _ _ 47 rfl w1.heap.size 5 i0 (.int .u8 0) 1 Try.underlying47 hi0 hz0 hz1 .i64 .i64 _ _ n rfl rfl rfl rfl hcc1 hcc2 (Nat.le_refl _) ?_); intro w2 hown hgr))
  have hO : ∃ l : List UInt8, l.length = n ∧ OwnB w2 w1.heap.size (.slice (some ⟨w1.heap.size, 0, none⟩) n n) l := ⟨List.replicate n 0, List.length_replicate, by unfold OwnB; rw [List.length_replicate, ← made_bytes]; exact hown⟩
  have hB2 : Below w1.heap.size w1 w2 := (Below.refl _ _).grown hgr (Nat.le_refl _) (fun k hk => by cases hk)
  have S2 := HS1.out.below hB2 hb1
  have O2 := ho1.trans (oth_of (hB2.mono ho1.size) b)
  have hwg : w.heap.size ≤ w1.heap.size := ho1.size
  clear hown hgr hB2 hcc1 hcc2 hi0 hz0 hz1 hz2 i0 HS1 ho1
  generalize w1.heap.size = g at *
  have HO := hide hO
  have HS := hide S2
  have HH := hide O2
  clear hO S2 O2
  have hn3i : (n : Int) ≤ 3 := by omega
  go_loopw [4] (fun i wr => ∃ k : Nat, k ≤ n ∧ i = .int .i64 k ∧ Hid (∃ l : List UInt8, l.length = n ∧ OwnB wr g (.slice (some ⟨g, 0, none⟩) n n) l) ∧ Hid (Src wr b) ∧ Hid (Oth w.heap.size b w wr)) (fun i _ => n - (intOf i).toNat)
  case atStart => exact ⟨0, Nat.zero_le _, rfl, HO, HS, HH⟩
  case round =>
    obtain ⟨k, hk, rfl, HO, HS, HH⟩ := hrel
    by_cases hlt : k < n
    · have hki : (k : Int) < (n : Int) := by omega
      have hk0 : (0 : Int) ≤ (k : Int) := by omega
      go_wp2_with fail
      refine (bn_any b 3 _ HS.out (by decide) (by decide)).mono ?_
      rintro e w3 ⟨y, hy1, hy2, rfl, S3, ho3⟩
      obtain ⟨l, hl, hown⟩ := HO.out
      have hown3 := hown.oth ho3 hb1
      have O3 := HH.out.trans (ho3.mono HH.out.size)
      obtain ⟨g', c', hv, _, _, hgb, hgs, hcell, hfr, _⟩ := hown3.head (by omega)
      have hgg : g' = g := by injection hv with hv _ _; injection hv with hv; injection hv with hv; exact hv.symm
      subst hgg
      have c1 := hcell k (by omega)
      have f1 := hfr k
      have HS3 := hide S3
      have HO3 := hide O3
      have HW3 := hide hown3
      clear hown hown3 hcell hfr hv ho3 HH HO HS S3 O3
      go_wp2_with fail
      go_roundw
      case rel =>
        obtain ⟨l', hl', hown'⟩ := HW3.out.setV (j := k) (by omega) (97 + y) (by omega) (by omega)
        exact ⟨k + 1, by omega, by go_num, hide ⟨l', by omega, hown'⟩, hide (HS3.out.set (p := ⟨g', k, none⟩) hb1 _), hide (HO3.out.setCell (p := ⟨g', k, none⟩) (.inr hwg) _)⟩
      case measure => simp [intOf]; omega
    · obtain rfl : k = n := by omega
      obtain ⟨l, hl, hown⟩ := HO.out
      have hconv := run_conv_str (c := k) hown.reads.2
      have HL := hide hl
      clear hl hown HO
      go_wp2_with fail
      go_ret
      exact ⟨bstr l, by rw [bstr_size, HL.out]; exact hn3, rfl, HS.out, HH.out⟩
end Go.Proofs.Ytaoiekcoiooghaa
