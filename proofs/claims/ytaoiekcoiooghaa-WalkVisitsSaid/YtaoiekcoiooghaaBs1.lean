/- The reader of numbers from which the statements build values: its state, and the contracts of New, Raw, N, Range, Pick and Span. No condition but the ranges that stand in each. -/
import Derived.Test.YtaoiekcoiooghaaByt
import Derived.Deep.QuietTactic
import Derived.BigQuiet
import Derived.Deep.DeepCutAuto
namespace Go.Proofs.Ytaoiekcoiooghaa
open Go.RowKit
/-- Of the blocks below B only the block b may have changed. -/
structure Oth (B b : Nat) (w w' : World) : Prop where
  os : w'.os = w.os
  tape : w'.tape = w.tape
  output : w'.output = w.output
  size : w.heap.size ≤ w'.heap.size
  block : ∀ k, k < B → k ≠ b → w'.heap[k]? = w.heap[k]?
section
variable {B B' b : Nat} {w w' w2 : World}
theorem Oth.refl (B b : Nat) (w : World) : Oth B b w w := ⟨rfl, rfl, rfl, Nat.le_refl _, fun _ _ _ => rfl⟩
theorem Oth.trans (h : Oth B b w w') (k : Oth B b w' w2) : Oth B b w w2 := ⟨k.os.trans h.os, k.tape.trans h.tape, k.output.trans h.output, Nat.le_trans h.size k.size, fun i hi hn => (k.block i hi hn).trans (h.block i hi hn)⟩
theorem Oth.mono (h : Oth B b w w') (hB : B' ≤ B) : Oth B' b w w' := ⟨h.os, h.tape, h.output, h.size, fun k hk hn => h.block k (Nat.lt_of_lt_of_le hk hB) hn⟩
theorem oth_of (h : Below B w w') (b : Nat) : Oth B b w w' := ⟨h.os, h.tape, h.output, h.size, fun k hk _ => h.block k hk⟩
theorem Oth.below (h : Oth B b w w') (hB : B' ≤ B) (hb : B' ≤ b) : Below B' w w' := ⟨h.os, h.tape, h.output, h.size, fun k hk => h.block k (by omega) (by omega)⟩
theorem Oth.drew (h : Oth B b w w') : Oth B b w w'.drew := ⟨h.os, h.tape, h.output, h.size, h.block⟩
theorem Oth.drewN (h : Oth B b w w') (n : Nat) : Oth B b w (w'.drewN n) := ⟨h.os, h.tape, h.output, h.size, h.block⟩
theorem Oth.alloc (h : Oth B b w w') (hB : B ≤ w'.heap.size) (o : Obj) : Oth B b w (w'.alloc o) := h.trans (oth_of ((Below.refl B w').alloc hB o) b)
theorem Oth.setCell (h : Oth B b w w') {p : Addr} (hp : p.block = b ∨ B ≤ p.block) (u : Value) : Oth B b w (w'.setCell p u) :=
  h.trans ⟨rfl, rfl, rfl, by simp [World.setCell], fun k hk hn => Below.heap_setCell _ _ _ _ (by rcases hp with hp | hp <;> omega)⟩
theorem Oth.cell (h : Oth B b w w') {p : Addr} (hp : p.block < B) (hn : p.block ≠ b) : w'.cell? p = w.cell? p := World.cell?_of_block (w := w) (h.block p.block hp hn)
theorem Oth.frozen (h : Oth B b w w') {p : Addr} (hp : p.block < B) (hn : p.block ≠ b) : w'.frozen? p = w.frozen? p := World.frozen?_of_block (w := w) (h.block p.block hp hn)
end
theorem bnextO {w a c : World} {b : Nat} (h : Oth w.heap.size b w a) (k : Oth a.heap.size b a c) : Oth w.heap.size b w c := h.trans (k.mono h.size)
/-- A reader of numbers in block b: the list lies below it, and so many numbers have been read. -/
def Src (W : World) (b : Nat) : Prop := b < W.heap.size ∧ (∀ j, W.frozen? ⟨b, j, none⟩ = false) ∧ ∃ (A : Option Addr) (n c : Nat) (l : List Int) (i : Nat), W.cell? ⟨b, 0, none⟩ = some (.slice A n c) ∧ W.cell? ⟨b, 1, none⟩ = some (.int .i64 (i : Int)) ∧ Reads W b A n (ivs l) ∧ n ≤ 4000 ∧ i ≤ n ∧
  n ≤ c ∧ c ≤ maxLen ∧ ∀ x ∈ l, -9223372036854775808 ≤ x ∧ x ≤ 9223372036854775807
theorem Src.below {W W' : World} {b B : Nat} (h : Src W b) (hb : Below B W W') (hB : b < B) : Src W' b := by
  obtain ⟨h1, h2, A, n, c, l, i, h3, h4, h5, h6, h7, h8, h9, h10⟩ := h
  exact ⟨Nat.lt_of_lt_of_le h1 hb.size, fun j => (hb.frozen (p := ⟨b, j, none⟩) hB).trans (h2 j), A, n, c, l, i, (hb.cell (p := ⟨b, 0, none⟩) hB).trans h3, (hb.cell (p := ⟨b, 1, none⟩) hB).trans h4, h5.keep fun p hp => hb.cell (p := p) (Nat.lt_trans hp hB), h6, h7, h8, h9, h10⟩
theorem Src.alloc {W : World} {b : Nat} (h : Src W b) (o : Obj) : Src (W.alloc o) b := h.below ((Below.refl _ _).alloc (Nat.le_refl _) o) h.1
theorem Src.drew {W : World} {b : Nat} (h : Src W b) : Src W.drew b := h
theorem Src.set {W : World} {b : Nat} (h : Src W b) {p : Addr} (hp : b < p.block) (u : Value) : Src (W.setCell p u) b := h.below (B := b + 1) ((Below.refl _ _).setCell hp u) (Nat.lt_succ_self b)
/-- What a function returns that reads numbers and gives one back. -/
def RetN (b : Nat) (lo hi : Int) (w : World) (e : Ending) (w' : World) : Prop := ∃ x : Int, lo ≤ x ∧ x ≤ hi ∧ e = .returned (.int .i64 x) ∧ Src w' b ∧ Oth w.heap.size b w w'
set_option maxHeartbeats 2000000 in
theorem bnew_any (A : Option Addr) (n c : Nat) (l : List Int) (w : World) (hr : Reads w w.heap.size A n (ivs l)) (hc : n ≤ c) (hcm : c ≤ maxLen) (hx : ∀ x ∈ l, -9223372036854775808 ≤ x ∧ x ≤ 9223372036854775807) :
    Calls Try.prog 27 #[.slice A n c] w fun e w' => e = .returned (.pointer (some ⟨w.heap.size, 0, none⟩)) ∧ Src w' w.heap.size ∧ Below w.heap.size w w' := by
  have key : ∀ (m : Nat), m ≤ n → m ≤ 4000 → Src (w.alloc (.cells #[.slice A m c, .int .i64 0] 103)) w.heap.size := by
    intro m hm h4
    refine ⟨by simp, fun j => by have h := heap_alloc_new w (.cells #[.slice A m c, .int .i64 0] 103); unfold World.frozen?; rw [h]; simp, A, m, c, l.take m, 0, by simp [World.cell?_alloc_new], by simp [World.cell?_alloc_new], ?_, h4, Nat.zero_le _, Nat.le_trans hm hc, hcm, fun x hxm => hx x (List.mem_of_mem_take hxm)⟩
    have := (hr.take_ hm).alloc (Nat.le_refl _) (.cells #[.slice A m c, .int .i64 0] 103)
    rwa [show (ivs l).take m = ivs (l.take m) by simp [ivs, List.map_take]] at this
  by_cases h : (4000 : Int) < (n : Int)
  · have k1 := hide (key 4000 (by omega) (by omega))
    have h40 : 4000 ≤ c := by omega
    clear key
    go_enter Try.func27, Try.ntmps27
    go_wp2_with fail
    go_ret
    exact ⟨rfl, k1.out, (Below.refl _ _).alloc (Nat.le_refl _) _⟩
  · have k1 := hide (key n (Nat.le_refl _) (by omega))
    clear key
    go_enter Try.func27, Try.ntmps27
    go_wp2_with fail
    go_ret
    exact ⟨rfl, k1.out, (Below.refl _ _).alloc (Nat.le_refl _) _⟩
set_option maxHeartbeats 2000000 in
theorem braw_any (b : Nat) (w : World) (hs : Src w b) : Calls Try.prog 92 #[.pointer (some ⟨b, 0, none⟩)] w (RetN b (-9223372036854775808) 9223372036854775807 w) := by
  have hs' := hs
  obtain ⟨hb, hf, A, n, c, l, i, c0, c1, hr, h4, hi, hc, hcm, hx⟩ := hs'
  unfold maxLen at hcm
  have f1 := hf 1
  have hln : l.length = n := by have := hr.1; rwa [ivs_length] at this
  by_cases hlt : i < n
  · obtain ⟨b', o, rfl, hb', hcc⟩ := hr.at_ hlt
    have c2 := hcc i _ (ivs_get l i (by omega))
    have hxi := hx l[i] (List.getElem_mem _)
    generalize l[i] = x at *
    have hne : b' ≠ b := by omega
    have H : ∀ q, ∃ wS, wS = (w.drewN q).setCell ⟨b, 1, none⟩ (.int .i64 ((i : Int) + 1)) ∧ wS.cell? ⟨b, 0, none⟩ = some (.slice (some ⟨b', o, none⟩) n c) ∧ wS.cell? ⟨b, 1, none⟩ = some (.int .i64 ((i : Int) + 1)) ∧ wS.cell? ⟨b', o + i, none⟩ = some (.int .i64 x) ∧ Src wS b ∧ Oth w.heap.size b w wS := by
      intro q
      have g0 : ((w.drewN q).setCell ⟨b, 1, none⟩ (.int .i64 ((i : Int) + 1))).cell? ⟨b, 0, none⟩ = some (.slice (some ⟨b', o, none⟩) n c) := by rw [World.cell?_setCell_other _ _ _ _ (by simp)]; exact c0
      have g1 : ((w.drewN q).setCell ⟨b, 1, none⟩ (.int .i64 ((i : Int) + 1))).cell? ⟨b, 1, none⟩ = some (.int .i64 ((i : Int) + 1)) := by simp [go_sem, c1]
      have g2 : ((w.drewN q).setCell ⟨b, 1, none⟩ (.int .i64 ((i : Int) + 1))).cell? ⟨b', o + i, none⟩ = some (.int .i64 x) := by rw [World.cell?_setCell_other _ _ _ _ (by simp)]; exact c2
      refine ⟨_, rfl, g0, g1, g2, ⟨by simpa using hb, fun j => by rw [World.frozen?_setCell]; exact hf j, _, n, c, l, i + 1, g0, by rw [g1]; simp, hr.setCell (by simp) _, h4, by omega, hc, hcm, hx⟩, ?_⟩
      exact Oth.setCell (p := ⟨b, 1, none⟩) ((Oth.refl _ _ _).drewN q) (.inl rfl) _
    have HH := hide H
    have HX := hide hxi
    have hin : (0 : Int) ≤ (i : Int) ∧ (i : Int) < (n : Int) ∧ (n : Int) ≤ 4000 := by omega
    obtain ⟨hin1, hin2, hin3⟩ := hin
    clear H hxi hx hcc hr hf hln
    go_enter Try.func92, Try.ntmps92
    go_wp2_with fail
    go_quiet (fail)
    go_upto_region 4 with fail
    obtain ⟨wS, hwS, k0, k1, k2, hS, hO⟩ := HH.out nq
    rw [← hwS]
    have HS := hide hS
    clear hwS HH c0 c1 c2 hS hs f1
    go_quiet (fail)
    go_wp2_with fail
    go_ret
    exact ⟨_, HX.out.1, HX.out.2, rfl, HS.out, hO.drewN _⟩
  · have hin : (n : Int) ≤ (i : Int) := by omega
    go_enter Try.func92, Try.ntmps92
    go_wp2_with fail
    go_quiet (fail)
    go_wp2_with fail
    go_ret
    exact ⟨0, by decide, by decide, rfl, hs, (Oth.refl _ _ _).drewN _⟩
theorem tmod_facts (x n : Int) (h : 1 ≤ n) : -n < x.tmod n ∧ x.tmod n < n := ⟨Int.lt_tmod_of_pos x (by omega), Int.tmod_lt_of_pos x (by omega)⟩
set_option maxHeartbeats 2000000 in
theorem bn_any (b : Nat) (n : Int) (w : World) (hs : Src w b) (h1 : 1 ≤ n) (h2 : n ≤ 1099511627776) : Calls Try.prog 32 #[.pointer (some ⟨b, 0, none⟩), .int .i64 n] w (RetN b 0 (n - 1) w) := by
  have h1' : ¬ n < 1 := by omega
  have HS := hide hs
  clear hs
  go_enter Try.func32, Try.ntmps32
  go_wp2_with fail
  refine (braw_any _ _ HS.out).mono ?_
  rintro e w1 ⟨x, hx1, hx2, rfl, hs1, ho1⟩
  have HS1 := hide hs1
  clear hs1 HS
  by_cases h0 : 0 ≤ x
  · have m1 : 0 ≤ x % n := Int.emod_nonneg x (by omega)
    have m2 : x % n < n := Int.emod_lt_of_pos x (by omega)
    go_wp2_with fail
    go_ret
    exact ⟨_, m1, by omega, rfl, HS1.out, ho1⟩
  · obtain ⟨m1, m2⟩ := tmod_facts x n h1
    have h0' : x < 0 := by omega
    clear h0
    go_wp2_with fail
    all_goals (go_ret; exact ⟨_, by omega, by omega, rfl, HS1.out, ho1⟩)
/-- The block g reads as integers. -/
def RowN (L : List Int) (g : Nat) (W : World) : Prop := g < W.heap.size ∧ ∀ j x, L[j]? = some x → W.cell? ⟨g, j, none⟩ = some (.int .i64 x)
theorem rowN_new (w : World) (L : List Int) (t : TypeId) : RowN L w.heap.size (w.alloc (.cells (ivs L).toArray t)) := by
  refine ⟨by simp, fun j x hx => ?_⟩
  have hj : j < L.length := by
    rcases Nat.lt_or_ge j L.length with h | h
    · exact h
    · rw [List.getElem?_eq_none h] at hx; cases hx
  rw [List.getElem?_eq_getElem hj] at hx
  simp only [Option.some.injEq] at hx
  subst hx
  simp [World.cell?_alloc_new, ivs, hj]
theorem RowN.oth {L : List Int} {g B b : Nat} {W W' : World} (h : RowN L g W) (ho : Oth B b W W') (hB : g < B) (hn : g ≠ b) : RowN L g W' :=
  ⟨Nat.lt_of_lt_of_le h.1 ho.size, fun j x hx => (ho.cell (p := ⟨g, j, none⟩) hB hn).trans (h.2 j x hx)⟩
/-- What Pick returns. -/
def RetK (b : Nat) (L : List Int) (w : World) (e : Ending) (w' : World) : Prop := ∃ x : Int, x ∈ L ∧ e = .returned (.int .i64 x) ∧ Src w' b ∧ Oth w.heap.size b w w'
set_option maxHeartbeats 2000000 in
theorem bpick_any (b g n : Nat) (L : List Int) (w : World) (hs : Src w b) (hg : RowN L g w) (hgb : g ≠ b) (hn : L.length = n) (h1 : 1 ≤ n) (h2 : n ≤ 1000) : Calls Try.prog 33 #[.pointer (some ⟨b, 0, none⟩), .slice (some ⟨g, 0, none⟩) n n] w (RetK b L w) := by
  have HS := hide hs
  have HL := hide hn
  have n1 : (1 : Int) ≤ (n : Int) := by omega
  have n2 : (n : Int) ≤ 1000 := by omega
  clear hs hn
  go_enter Try.func33, Try.ntmps33
  go_wp2_with fail
  refine (bn_any b n w HS.out (by omega) (by omega)).mono ?_
  rintro e w1 ⟨x, hx1, hx2, rfl, hs1, ho1⟩
  have hr := hg.oth ho1 hg.1 hgb
  obtain ⟨k, rfl⟩ := Int.eq_ofNat_of_zero_le hx1
  have hk : k < L.length := by rw [HL.out]; omega
  have hki : (k : Int) < (n : Int) := by omega
  have c0 := hr.2 k _ (List.getElem?_eq_getElem hk)
  have HM := hide (List.getElem_mem hk)
  have HS1 := hide hs1
  generalize L[k] = x at *
  clear hs1 HS hr hg
  go_wp2_with fail
  go_ret
  exact ⟨_, HM.out, rfl, HS1.out, ho1⟩
set_option maxHeartbeats 2000000 in
theorem brange_any (b : Nat) (lo hi : Int) (w : World) (hs : Src w b) (h1 : lo ≤ hi) (h2 : -1099511627776 ≤ lo) (h3 : hi ≤ 1099511627776) (h4 : hi - lo + 1 ≤ 1099511627776) : Calls Try.prog 87 #[.pointer (some ⟨b, 0, none⟩), .int .i64 lo, .int .i64 hi] w (RetN b lo hi w) := by
  have HS := hide hs
  clear hs
  go_enter Try.func87, Try.ntmps87
  go_wp2_with fail
  refine (bn_any b (hi - lo + 1) w HS.out (by omega) (by omega)).mono ?_
  rintro e w1 ⟨x, hx1, hx2, rfl, hs1, ho1⟩
  have HS1 := hide hs1
  clear hs1 HS
  go_wp2_with fail
  go_ret
  exact ⟨_, by omega, by omega, rfl, HS1.out, ho1⟩
/-- What Span returns. -/
def RetT (b : Nat) (w : World) (e : Ending) (w' : World) : Prop := ∃ x y : Int, 0 ≤ x ∧ x ≤ y ∧ y ≤ 65535 ∧ e = .returned (.tuple #[.int .i64 x, .int .i64 y]) ∧ Src w' b ∧ Oth w.heap.size b w w'
set_option maxHeartbeats 4000000 in
set_option maxRecDepth 20000 in
theorem bspan_any (b : Nat) (w : World) (hs : Src w b) : Calls Try.prog 34 #[.pointer (some ⟨b, 0, none⟩)] w (RetT b w) := by
  have hb := hs.1
  have HS := hide hs
  clear hs
  go_enter Try.func34, Try.ntmps34
  go_wp2_with fail
  have hg := rowN_new w [0, 0, 100, 32768, 65535] 3
  have hs1 := HS.out.alloc (.cells (ivs [0, 0, 100, 32768, 65535]).toArray 3)
  have ho1 := (Oth.refl w.heap.size b w).alloc (Nat.le_refl _) (.cells (ivs [0, 0, 100, 32768, 65535]).toArray 3)
  refine (bpick_any b _ 5 _ _ hs1 hg (by omega) rfl (by decide) (by decide)).mono ?_
  rintro e w1 ⟨x, hx, rfl, hs2, ho2⟩
  have ho3 := ho1.trans (ho2.mono (by simp))
  have HS2 := hide hs2
  clear hs1 hs2 ho1 ho2 hg HS
  go_wp2_with fail
  have hg := rowN_new w1 [65535, 65535, 40000, 101, 32768] 3
  have hs1 := HS2.out.alloc (.cells (ivs [65535, 65535, 40000, 101, 32768]).toArray 3)
  have ho1 := ho3.alloc ho3.size (.cells (ivs [65535, 65535, 40000, 101, 32768]).toArray 3)
  refine (bpick_any b _ 5 _ _ hs1 hg (by have := HS2.out.1; omega) rfl (by decide) (by decide)).mono ?_
  rintro e w2 ⟨y, hy, rfl, hs2, ho2⟩
  have ho4 := ho1.trans (ho2.mono (Nat.le_trans ho3.size (by simp)))
  have HS3 := hide hs2
  have bx : 0 ≤ x ∧ x ≤ 65535 := by simp only [List.mem_cons, List.not_mem_nil, or_false] at hx; omega
  have bY : 0 ≤ y ∧ y ≤ 65535 := by simp only [List.mem_cons, List.not_mem_nil, or_false] at hy; omega
  obtain ⟨bx1, bx2⟩ := bx
  obtain ⟨by1, by2⟩ := bY
  clear hs1 hs2 ho1 ho2 hg HS2 hx hy ho3
  by_cases hxy : x ≤ y
  · go_wp2_with fail
    all_goals (go_ret2; exact ⟨_, _, by omega, by omega, by omega, rfl, HS3.out, ho4⟩)
  · go_wp2_with fail
    all_goals (go_ret2; exact ⟨_, _, by omega, by omega, by omega, rfl, HS3.out, ho4⟩)
end Go.Proofs.Ytaoiekcoiooghaa
