/- Words for the directories, and the contracts of index and of the builders' Edit. Conditions: the directory's rows; the reader of numbers. -/
import Derived.Test.YtaoiekcoiooghaaBs1
import Derived.Test.YtaoiekcoiooghaaHn5
namespace Go.Proofs.Ytaoiekcoiooghaa
open Go.RowKit
/-- A span: its ends and its shard. -/
structure Sp where
  lo : Int
  hi : Int
  sh : Int
/-- The spans follow each other from a on, up to b. -/
def chain : Int → List Sp → Int → Prop
  | a, [], b => a = b
  | a, x :: r, b => x.lo = a ∧ x.lo ≤ x.hi ∧ chain (x.hi + 1) r b
theorem chain_append : ∀ (L M : List Sp) (a c : Int), chain a (L ++ M) c ↔ ∃ b, chain a L b ∧ chain b M c
  | [], M, a, c => by simp [chain]
  | x :: r, M, a, c => by
    simp only [List.cons_append, chain, chain_append r M]
    constructor
    · rintro ⟨h1, h2, b, h3, h4⟩; exact ⟨b, ⟨h1, h2, h3⟩, h4⟩
    · rintro ⟨b, ⟨h1, h2, h3⟩, h4⟩; exact ⟨h1, h2, b, h3, h4⟩
theorem chain_le : ∀ {L : List Sp} {a b : Int}, chain a L b → a ≤ b
  | [], a, b, h => by simp only [chain] at h; omega
  | x :: r, a, b, h => by
    obtain ⟨h1, h2, h3⟩ := h
    have := chain_le h3
    omega
theorem chain_mem : ∀ {L : List Sp} {a b : Int}, chain a L b → ∀ x ∈ L, a ≤ x.lo ∧ x.lo ≤ x.hi ∧ x.hi < b
  | [], a, b, _, x, hx => by cases hx
  | y :: r, a, b, h, x, hx => by
    obtain ⟨h1, h2, h3⟩ := h
    have := chain_le h3
    rcases List.mem_cons.1 hx with rfl | hx
    · omega
    · have := chain_mem h3 x hx
      omega
/-- A good directory: its spans, and where each slot was merged into. -/
def GoodD (L : List Sp) (F : List Int) : Prop := chain 0 L 65536 ∧ (L.map Sp.sh).Nodup ∧ (∀ x ∈ L, 0 ≤ x.sh ∧ x.sh < (F.length : Int)) ∧ 1 ≤ F.length ∧ F.length ≤ 6 ∧ ∀ f ∈ F, -1 ≤ f ∧ f < (F.length : Int)
theorem GoodD.pos {L : List Sp} {F : List Int} (h : GoodD L F) : 1 ≤ L.length := by
  cases L with
  | nil => have := h.1; simp only [chain] at this; omega
  | cons x r => simp
/-- The block g reads as spans. -/
def RowP (L : List Sp) (g : Nat) (W : World) : Prop := g < W.heap.size ∧ ∀ k x, L[k]? = some x → W.cell? ⟨g, k * 3, none⟩ = some (.int .i64 x.lo) ∧ W.cell? ⟨g, k * 3 + 1, none⟩ = some (.int .i64 x.hi) ∧ W.cell? ⟨g, k * 3 + 2, none⟩ = some (.int .i64 x.sh)
theorem RowP.below {L : List Sp} {g B : Nat} {W W' : World} (h : RowP L g W) (hb : Below B W W') (hB : g < B) : RowP L g W' :=
  ⟨Nat.lt_of_lt_of_le h.1 hb.size, fun k x hx => ⟨(hb.cell (p := ⟨g, k * 3, none⟩) hB).trans (h.2 k x hx).1, (hb.cell (p := ⟨g, k * 3 + 1, none⟩) hB).trans (h.2 k x hx).2.1, (hb.cell (p := ⟨g, k * 3 + 2, none⟩) hB).trans (h.2 k x hx).2.2⟩⟩
theorem RowP.oth {L : List Sp} {g B b : Nat} {W W' : World} (h : RowP L g W) (hb : Oth B b W W') (hB : g < B) (hn : g ≠ b) : RowP L g W' :=
  ⟨Nat.lt_of_lt_of_le h.1 hb.size, fun k x hx => ⟨(hb.cell (p := ⟨g, k * 3, none⟩) hB hn).trans (h.2 k x hx).1, (hb.cell (p := ⟨g, k * 3 + 1, none⟩) hB hn).trans (h.2 k x hx).2.1, (hb.cell (p := ⟨g, k * 3 + 2, none⟩) hB hn).trans (h.2 k x hx).2.2⟩⟩
theorem RowN.below {L : List Int} {g B : Nat} {W W' : World} (h : RowN L g W) (hb : Below B W W') (hB : g < B) : RowN L g W' :=
  ⟨Nat.lt_of_lt_of_le h.1 hb.size, fun j x hx => (hb.cell (p := ⟨g, j, none⟩) hB).trans (h.2 j x hx)⟩
/-- What index returns: the place of the slot's span, or -1. -/
def IdxR (L : List Sp) (slot r : Int) : Prop := (r = -1 ∧ ∀ x ∈ L, x.sh ≠ slot) ∨ ∃ k : Nat, r = (k : Int) ∧ ∃ x, L[k]? = some x ∧ x.sh = slot
def RetI (L : List Sp) (slot : Int) (w : World) (e : Ending) (w' : World) : Prop := ∃ r : Int, IdxR L slot r ∧ e = .returned (.int .i64 r) ∧ Below w.heap.size w w'
set_option maxHeartbeats 2000000 in
set_option maxRecDepth 20000 in
theorem didx_any (L : List Sp) (m : Nat) (hm : L.length = m) (hm1 : m ≤ 100) (g c : Nat) (v sl : Value) (slot : Int) (w : World) (hr : RowP L g w) :
    Calls Try.prog 104 #[.agg #[v, .slice (some ⟨g, 0, none⟩) m c, sl], .int .i64 slot] w (RetI L slot w) := by
  have HM := hide hm
  have hr0 := hr.below ((Below.refl _ _).alloc (Nat.le_refl w.heap.size) (.cells #[v, .slice (some ⟨g, 0, none⟩) m c, sl] 40)) hr.1
  have W0 : Below w.heap.size w (w.alloc (.cells #[v, .slice (some ⟨g, 0, none⟩) m c, sl] 40)) := (Below.refl _ _).alloc (Nat.le_refl _) _
  have q1 : (w.alloc (.cells #[v, .slice (some ⟨g, 0, none⟩) m c, sl] 40)).cell? ⟨w.heap.size, 1, none⟩ = some (.slice (some ⟨g, 0, none⟩) m c) := by simp [World.cell?_alloc_new]
  have hm100 : (m : Int) ≤ 100 := by omega
  clear hm hr
  go_enter Try.func104, Try.ntmps104
  go_upto_region 1 with fail
  generalize w.alloc (.cells #[v, .slice (some ⟨g, 0, none⟩) m c, sl] 40) = w1 at *
  go_wp2_with fail
  go_loop [5] (fun i => ∃ k : Nat, k ≤ m ∧ i = .int .i64 k ∧ Hid (∀ j x, j < k → L[j]? = some x → x.sh ≠ slot)) (fun i => m - (intOf i).toNat)
  case atStart => exact ⟨0, Nat.zero_le _, rfl, hide (fun j x hj => absurd hj (Nat.not_lt_zero _))⟩
  case round =>
    obtain ⟨k, hk, rfl, HP⟩ := hrel
    by_cases hlt : k < m
    · have hki : (k : Int) < (m : Int) := by omega
      have hk0 : (0 : Int) ≤ (k : Int) := by omega
      have hkl : k < L.length := by rw [HM.out]; exact hlt
      have hx := List.getElem?_eq_getElem hkl
      obtain ⟨c0, c1, c2⟩ := hr0.2 k _ hx
      have HX := hide hx
      generalize L[k] = x at *
      have HR := hide hr0
      clear hx c0 c1
      by_cases hs : x.sh = slot
      · have hb : (x.sh == slot) = true := by rw [beq_iff_eq]; exact hs
        have HS := hide hs
        clear hs HR
        go_wp2_with fail
        go_ret
        exact ⟨_, .inr ⟨k, rfl, x, HX.out, HS.out⟩, rfl, W0⟩
      · have hb : (x.sh == slot) = false := by rw [beq_eq_false_iff_ne]; exact hs
        have HN : Hid (∀ j y, j < k + 1 → L[j]? = some y → y.sh ≠ slot) := hide (fun j y hj hy => by
          rcases Nat.lt_or_ge j k with h | h
          · exact HP.out j y h hy
          · obtain rfl : j = k := by omega
            rw [HX.out] at hy
            injection hy with hy
            rw [← hy]
            exact hs)
        clear hs HR
        go_wp2_with fail
        go_round
        case rel => exact ⟨k + 1, by omega, by go_num, HN⟩
        case measure => simp [intOf]; omega
    · obtain rfl : k = m := by omega
      go_wp2_with fail
      go_ret
      refine ⟨-1, .inl ⟨rfl, fun x hx => ?_⟩, rfl, W0⟩
      obtain ⟨j, hj⟩ := List.getElem?_of_mem hx
      exact HP.out j x (by have := (List.getElem?_eq_some_iff.1 hj).1; rw [HM.out] at this; exact this) hj
/-- What Edit returns. -/
def RetE (b : Nat) (n : Int) (w : World) (e : Ending) (w' : World) : Prop := ∃ kd fr tt md : Int, 1 ≤ kd ∧ kd ≤ 2 ∧ 0 ≤ fr ∧ fr < n ∧ 0 ≤ tt ∧ tt < n ∧ 0 ≤ md ∧ md ≤ 65534 ∧ e = .returned (.agg #[.int .i64 kd, .int .i64 fr, .int .i64 tt, .int .i64 md]) ∧ Src w' b ∧ Oth w.heap.size b w w'
theorem Box4.oth {W W' : World} {B b c : Nat} {x0 x1 x2 x3 : Value} (h : Box4 W b x0 x1 x2 x3) (ho : Oth B c W W') (hB : b < B) (hn : b ≠ c) : Box4 W' b x0 x1 x2 x3 :=
  ⟨Nat.lt_of_lt_of_le h.1 ho.size, (ho.cell (p := ⟨b, 0, none⟩) hB hn).trans h.2.1, (ho.cell (p := ⟨b, 1, none⟩) hB hn).trans h.2.2.1, (ho.cell (p := ⟨b, 2, none⟩) hB hn).trans h.2.2.2.1, (ho.cell (p := ⟨b, 3, none⟩) hB hn).trans h.2.2.2.2⟩
theorem free_oth {W W' : World} {B b c : Nat} (h : Free W b) (ho : Oth B c W W') (hB : b < B) (hn : b ≠ c) : Free W' b := fun j => (ho.frozen (p := ⟨b, j, none⟩) hB hn).trans (h j)
set_option maxHeartbeats 4000000 in
set_option maxRecDepth 20000 in
theorem bedit_any (b : Nat) (n : Int) (w : World) (hs : Src w b) (h1 : 1 ≤ n) (h2 : n ≤ 6) : Calls Try.prog 95 #[.pointer (some ⟨b, 0, none⟩), .int .i64 n] w (RetE b n w) := by
  have hbw := hs.1
  have S0 := hs.alloc (.cells #[.int .i64 0, .int .i64 0, .int .i64 0, .int .i64 0] 109)
  have O0 := (Oth.refl w.heap.size b w).alloc (Nat.le_refl _) (.cells #[.int .i64 0, .int .i64 0, .int .i64 0, .int .i64 0] 109)
  have X0 := Box4.new w (.int .i64 0) (.int .i64 0) (.int .i64 0) (.int .i64 0) 109
  have F0 := Free.new w #[.int .i64 0, .int .i64 0, .int .i64 0, .int .i64 0] 109
  have hn2 : n ≤ 1099511627776 := by omega
  clear hs
  go_enter Try.func95, Try.ntmps95
  go_wp2_with fail
  refine (brange_any b 1 2 _ S0 (by decide) (by decide) (by decide) (by decide)).mono ?_
  rintro e w1 ⟨kd, k1, k2, rfl, S1, ho⟩
  have O1 := O0.trans (ho.mono O0.size)
  have X1 := X0.oth ho X0.1 (by omega)
  have F1 := free_oth F0 ho X0.1 (by omega)
  have HS := hide S1
  clear ho O0 X0 F0 S0 S1
  go_wp2_with fail
  refine (bn_any b n _ HS.out h1 hn2).mono ?_
  rintro e w2 ⟨fr, f1, f2, rfl, S2, ho⟩
  have O2 := O1.trans (ho.mono O1.size)
  have X2 := X1.oth ho X1.1 (by omega)
  have F2 := free_oth F1 ho X1.1 (by omega)
  clear ho O1 X1 F1 HS
  have HS := hide S2
  clear S2
  go_wp2_with fail
  refine (bn_any b n _ HS.out h1 hn2).mono ?_
  rintro e w3 ⟨tt, t1, t2, rfl, S3, ho⟩
  have O3 := O2.trans (ho.mono O2.size)
  have X3 := X2.oth ho X2.1 (by omega)
  have F3 := free_oth F2 ho X2.1 (by omega)
  clear ho O2 X2 F2 HS
  have Y3 := Box4.new w3 (.int .i64 kd) (.int .i64 fr) (.int .i64 tt) (.int .i64 0) 109
  have G3 := Free.new w3 #[.int .i64 kd, .int .i64 fr, .int .i64 tt, .int .i64 0] 109
  have F3 := F3.alloc X3.1 (.cells #[.int .i64 kd, .int .i64 fr, .int .i64 tt, .int .i64 0] 109)
  have hwb := X3.1
  have X3 := X3.alloc (.cells #[.int .i64 kd, .int .i64 fr, .int .i64 tt, .int .i64 0] 109)
  have O3 := O3.alloc O3.size (.cells #[.int .i64 kd, .int .i64 fr, .int .i64 tt, .int .i64 0] 109)
  have HS := hide (S3.alloc (.cells #[.int .i64 kd, .int .i64 fr, .int .i64 tt, .int .i64 0] 109))
  clear S3
  go_upto_region 2 with fail
  generalize w3.heap.size = M at *
  generalize w3.alloc (.cells #[.int .i64 kd, .int .i64 fr, .int .i64 tt, .int .i64 0] 109) = w4 at *
  by_cases hk : kd = 1
  · have hkb : (kd == 1) = true := by rw [beq_iff_eq]; exact hk
    have HK1 := hide hk
    clear hk
    obtain ⟨_, y0, y1, y2, y3⟩ := id Y3
    go_wp2_with fail
    clear y0 y1 y2 y3
    have hg := rowN_new w4 [0, 10000, 20000, 32767, 32768, 40000, 50000, 65534] 3
    have S5 := HS.out.alloc (.cells (ivs [0, 10000, 20000, 32767, 32768, 40000, 50000, 65534]).toArray 3)
    have O5 := O3.alloc O3.size (.cells (ivs [0, 10000, 20000, 32767, 32768, 40000, 50000, 65534]).toArray 3)
    have X5 := X3.alloc (.cells (ivs [0, 10000, 20000, 32767, 32768, 40000, 50000, 65534]).toArray 3)
    have F5 := F3.alloc X3.1 (.cells (ivs [0, 10000, 20000, 32767, 32768, 40000, 50000, 65534]).toArray 3)
    have Y5 := Y3.alloc (.cells (ivs [0, 10000, 20000, 32767, 32768, 40000, 50000, 65534]).toArray 3)
    have G5 := G3.alloc Y3.1 (.cells (ivs [0, 10000, 20000, 32767, 32768, 40000, 50000, 65534]).toArray 3)
    refine (bpick_any b _ 8 _ _ S5 hg (by have := HS.out.1; omega) rfl (by decide) (by decide)).mono ?_
    rintro e w5 ⟨md, hm, rfl, S6, ho⟩
    have hmd : 0 ≤ md ∧ md ≤ 65534 := by simp only [List.mem_cons, List.not_mem_nil, or_false] at hm; omega
    have O6 := O5.trans (ho.mono O5.size)
    have X6 := X5.oth ho X5.1 (by omega)
    have F6 := free_oth F5 ho X5.1 (by omega)
    have Y6 := Y5.oth ho Y5.1 (by omega)
    have G6 := free_oth G5 ho Y5.1 (by omega)
    clear ho O5 X5 F5 Y5 G5 S5 hg hm HS O3 X3 F3 Y3 G3
    have HS := hide S6
    clear S6
    obtain ⟨y4, y0, y1, y2, y3⟩ := id Y6
    obtain ⟨_, x0, x1, x2, x3⟩ := id X6
    have f0 := F6 0
    have f1' := F6 1
    have f2' := F6 2
    have f3 := F6 3
    have g3 := G6 3
    go_wp2_with fail
    have hwM : w.heap.size < M := by assumption
    refine bodyPost_ret (v := .agg #[.int .i64 kd, .int .i64 fr, .int .i64 tt, .int .i64 md]) (by simp [results, Try.results95, go_sem, x0, x1, x2, x3]) rfl ⟨kd, fr, tt, md, k1, k2, f1, by omega, t1, by omega, hmd.1, hmd.2, rfl, ?_, ?_⟩
    · exact ((((HS.out.set (p := ⟨M, 3, none⟩) (by simp; omega) _).set (p := ⟨w.heap.size, 0, none⟩) hbw _).set (p := ⟨w.heap.size, 1, none⟩) hbw _).set (p := ⟨w.heap.size, 2, none⟩) hbw _).set (p := ⟨w.heap.size, 3, none⟩) hbw _
    · exact ((((O6.setCell (p := ⟨M, 3, none⟩) (.inr (Nat.le_of_lt hwM)) _).setCell (p := ⟨w.heap.size, 0, none⟩) (.inr (Nat.le_refl _)) _).setCell (p := ⟨w.heap.size, 1, none⟩) (.inr (Nat.le_refl _)) _).setCell (p := ⟨w.heap.size, 2, none⟩) (.inr (Nat.le_refl _)) _).setCell (p := ⟨w.heap.size, 3, none⟩) (.inr (Nat.le_refl _)) _
  · have hkb : (kd == 1) = false := by rw [beq_eq_false_iff_ne]; exact hk
    clear hk
    obtain ⟨y4, y0, y1, y2, y3⟩ := id Y3
    obtain ⟨_, x0, x1, x2, x3⟩ := id X3
    have f0 := F3 0
    have f1' := F3 1
    have f2' := F3 2
    have f3 := F3 3
    go_wp2_with fail
    refine bodyPost_ret (v := .agg #[.int .i64 kd, .int .i64 fr, .int .i64 tt, .int .i64 0]) (by simp [results, Try.results95, go_sem, x0, x1, x2, x3]) rfl ⟨kd, fr, tt, 0, k1, k2, f1, by omega, t1, by omega, by decide, by decide, rfl, ?_, ?_⟩
    · exact (((HS.out.set (p := ⟨w.heap.size, 0, none⟩) hbw _).set (p := ⟨w.heap.size, 1, none⟩) hbw _).set (p := ⟨w.heap.size, 2, none⟩) hbw _).set (p := ⟨w.heap.size, 3, none⟩) hbw _
    · exact (((O3.setCell (p := ⟨w.heap.size, 0, none⟩) (.inr (Nat.le_refl _)) _).setCell (p := ⟨w.heap.size, 1, none⟩) (.inr (Nat.le_refl _)) _).setCell (p := ⟨w.heap.size, 2, none⟩) (.inr (Nat.le_refl _)) _).setCell (p := ⟨w.heap.size, 3, none⟩) (.inr (Nat.le_refl _)) _
end Go.Proofs.Ytaoiekcoiooghaa
