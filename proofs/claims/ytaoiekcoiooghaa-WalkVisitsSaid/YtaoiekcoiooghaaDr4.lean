/- The contract of the directory reference's New within its limits. Conditions: the ranges that stand in it. -/
import Derived.Test.YtaoiekcoiooghaaDr3
import Derived.Deep.DeepCutAuto
namespace Go.Proofs.Ytaoiekcoiooghaa
open Go.RowKit
theorem Box3.set (W : World) {b : Nat} {x0 x1 x2 : Value} (h : Box3 W b x0 x1 x2) (y : Value) : Box3 (W.setCell ⟨b, 1, none⟩ y) b x0 y x2 := by
  obtain ⟨h3, h0, h1, h2⟩ := h
  exact ⟨by simpa using h3, by simp [go_sem, h0], by simp [go_sem, h1], by simp [go_sem, h2]⟩
theorem Box3.set2 (W : World) {b : Nat} {x0 x1 x2 : Value} (h : Box3 W b x0 x1 x2) (y : Value) : Box3 (W.setCell ⟨b, 2, none⟩ y) b x0 x1 y := by
  obtain ⟨h3, h0, h1, h2⟩ := h
  exact ⟨by simpa using h3, by simp [go_sem, h0], by simp [go_sem, h1], by simp [go_sem, h2]⟩
theorem Box3.far {W : World} {b : Nat} {x0 x1 x2 : Value} (h : Box3 W b x0 x1 x2) {p : Addr} (hp : b ≠ p.block) (u : Value) : Box3 (W.setCell p u) b x0 x1 x2 := by
  have k : ∀ j, (W.setCell p u).cell? ⟨b, j, none⟩ = W.cell? ⟨b, j, none⟩ := fun j => World.cell?_of_block (Below.heap_setCell W p u b hp)
  exact ⟨by simpa using h.1, (k 0).trans h.2.1, (k 1).trans h.2.2.1, (k 2).trans h.2.2.2⟩
theorem RowP.set {L : List Sp} {g : Nat} {W : World} (h : RowP L g W) {p : Addr} (hp : g ≠ p.block) (u : Value) : RowP L g (W.setCell p u) := by
  have k : ∀ j, (W.setCell p u).cell? ⟨g, j, none⟩ = W.cell? ⟨g, j, none⟩ := fun j => World.cell?_of_block (Below.heap_setCell W p u g hp)
  exact ⟨by simpa using h.1, fun i x hx => ⟨(k _).trans (h.2 i x hx).1, (k _).trans (h.2 i x hx).2.1, (k _).trans (h.2 i x hx).2.2⟩⟩
theorem RowN.set {L : List Int} {g : Nat} {W : World} (h : RowN L g W) {p : Addr} (hp : g ≠ p.block) (u : Value) : RowN L g (W.setCell p u) := by
  have k : ∀ j, (W.setCell p u).cell? ⟨g, j, none⟩ = W.cell? ⟨g, j, none⟩ := fun j => World.cell?_of_block (Below.heap_setCell W p u g hp)
  exact ⟨by simpa using h.1, fun i x hx => (k _).trans (h.2 i x hx)⟩
theorem OwnP.set {W : World} {base : Nat} {v : Value} {L : List Sp} (h : OwnP W base v L) {p : Addr} (hp : p.block < base) (u : Value) : OwnP (W.setCell p u) base v L := ownsRow_setCell_below h hp u
/-- A row of integers of the call's own. -/
def OwnN (W : World) (base : Nat) (v : Value) (F : List Int) : Prop := W.ownsRow base 3 1 v F.length (ivs F)
theorem OwnN.nil (W : World) (base : Nat) : OwnN W base (.slice none 0 0) [] := World.ownsRow_nil _ _ _ _
theorem OwnN.set {W : World} {base : Nat} {v : Value} {F : List Int} (h : OwnN W base v F) {p : Addr} (hp : p.block < base) (u : Value) : OwnN (W.setCell p u) base v F := ownsRow_setCell_below h hp u
theorem OwnN.alloc {W : World} {base : Nat} {v : Value} {F : List Int} (h : OwnN W base v F) (o : Obj) : OwnN (W.alloc o) base v F := World.ownsRow.alloc h o
theorem OwnN.head {W : World} {base : Nat} {v : Value} {F : List Int} (h : OwnN W base v F) (hL : 0 < F.length) : ∃ g c, v = .slice (some ⟨g, 0, none⟩) F.length c ∧ F.length ≤ c ∧ c ≤ maxLen ∧ base ≤ g ∧ RowN F g W ∧ Free W g := by
  have h0 := h
  rcases h.2 with ⟨_, h1⟩ | ⟨g, cap, cur, rfl, hb, hg, hnc, hcm, _⟩
  · omega
  · refine ⟨g, cap, rfl, hnc, hcm, hb, ⟨(Array.getElem?_eq_some_iff.1 hg).1, fun k x hx => ?_⟩, fun j => World.ownsRow.frozenAt h0 j⟩
    have hk : k < F.length := (List.getElem?_eq_some_iff.1 hx).1
    rw [World.ownsRow.cellAt h0 _ (by omega)]
    simp [ivs, hx]
theorem info3' : (Try.prog.info? 3).map (fun i => (i.zero, i.size, i.bytes)) = some (some (.int .i64 0), 1, 8) := by kernel_rfl
theorem ivs_one (F : List Int) : ∀ u ∈ ivs F, u.oneCell' = true := by
  intro u hu
  simp only [ivs, List.mem_map] at hu
  obtain ⟨x, _, rfl⟩ := hu
  rfl
theorem wpList_appN {w : World} {ops : Array Oper} {rest : List Oper} {o : Oper} {a : Act} {Q : Exit → Act → World → Prop} (hgd : o.guard = none) (s x : Operand)
    (ho : o.op = .call { callee := .builtin .append, args := #[s, x], argTypes := #[24, 24] }) (_hty : o.type = 24)
    {base : Nat} {v : Value} {F : List Int} (hown : OwnN w base v F) (hs : a.eval s = v)
    {B : Nat} {A : Option Addr} {m c : Nat} {news : List Int} (hr : Reads w B A m (ivs news)) (hx : a.eval x = .slice A m c)
    (hlen : F.length + news.length ≤ 1000000) (hbase : base ≤ w.heap.size)
    (h : ∀ v' w', OwnN w' base v' (F ++ news) → Below base w w' → wpList Try.prog ops Q rest (a.put o.dst v') w') :
    wpList Try.prog ops Q (o :: rest) a w := by
  obtain ⟨i0, hi0, hz0, hz1, hz2⟩ := info_parts info3'
  have hm : m = news.length := by have := hr.1; rw [ivs_length] at this; omega
  subst hm
  refine wpList_append_any w hgd s x 24 ho base 3 i0 _ 8 Try.underlying24 hi0 hz0 hz1 hz2 rfl v F.length (ivs F) hs hown B A _ c (ivs news) hx hr (ivs_one _) (by simp only [maxLen]; omega) (by omega) hbase ?_
  intro v' w' hown' hg hat
  refine h v' w' ?_ ?_
  · unfold OwnN
    rw [show ivs (F ++ news) = ivs F ++ ivs news by simp [ivs], List.length_append]
    exact hown'
  · exact (Below.refl base w).grown hg hbase fun k hk => (World.ownsRow.lt hown k hk).1
theorem RdP.lit (w : World) (x0 x1 x2 : Int) (t : TypeId) : RdP (w.alloc (.cells #[.int .i64 x0, .int .i64 x1, .int .i64 x2] t)) (some ⟨w.heap.size, 0, none⟩) 1 [⟨x0, x1, x2⟩] := by
  refine ⟨rfl, fun _ => ⟨w.heap.size, 0, rfl, fun j u hu => ?_⟩⟩
  obtain ⟨k, x, hx, hc⟩ := cellsP_inv _ j u hu
  obtain ⟨rfl, rfl⟩ : k = 0 ∧ x = ⟨x0, x1, x2⟩ := by
    match k, hx with
    | 0, hx => exact ⟨rfl, by simpa using hx.symm⟩
    | k + 1, hx => simp at hx
  rcases hc with ⟨rfl, rfl⟩ | ⟨rfl, rfl⟩ | ⟨rfl, rfl⟩ <;> simp [World.cell?_alloc_new]
/-- The first directory's spans. -/
def spN (live k : Nat) : List Sp := (List.range k).map fun i : Nat => ⟨((i : Int) * 65536).tdiv live, (((i : Int) + 1) * 65536).tdiv live - 1, i⟩
theorem spN_succ (live k : Nat) : spN live (k + 1) = spN live k ++ [⟨((k : Int) * 65536).tdiv live, (((k : Int) + 1) * 65536).tdiv live - 1, k⟩] := by simp [spN, List.range_succ]
theorem spN_length (live k : Nat) : (spN live k).length = k := by simp [spN]
theorem spN_good {live slots : Nat} (h1 : 1 ≤ live) (h2 : live ≤ slots) (h3 : slots ≤ 6) : GoodD (spN live live) (List.replicate slots (-1)) := by
  refine ⟨?_, ?_, ?_, by simp; omega, by simp; omega, ?_⟩
  · rcases (by omega : live = 1 ∨ live = 2 ∨ live = 3 ∨ live = 4 ∨ live = 5 ∨ live = 6) with rfl | rfl | rfl | rfl | rfl | rfl <;> simp [spN, List.range_succ, chain]
  · have e : (spN live live).map Sp.sh = (List.range live).map (fun i : Nat => (i : Int)) := by simp only [spN, List.map_map]; rfl
    rw [e]
    rcases (by omega : live = 1 ∨ live = 2 ∨ live = 3 ∨ live = 4 ∨ live = 5 ∨ live = 6) with rfl | rfl | rfl | rfl | rfl | rfl <;> decide
  · intro x hx
    simp only [spN, List.mem_map, List.mem_range] at hx
    obtain ⟨i, hi, rfl⟩ := hx
    simp only [List.length_replicate]
    omega
  · intro f hf
    have := List.eq_of_mem_replicate hf
    subst this
    simp
    omega
/-- What New returns. -/
def RetG (slots : Nat) (w : World) (e : Ending) (w' : World) : Prop := ∃ (v : Int) (g c f cf : Nat) (L : List Sp) (F : List Int), e = .returned (.tuple #[.agg #[.int .i64 v, .slice (some ⟨g, 0, none⟩) L.length c, .slice (some ⟨f, 0, none⟩) F.length cf], .int .i64 0]) ∧
  GoodD L F ∧ F.length = slots ∧ L.length ≤ 6 ∧ L.length ≤ c ∧ c ≤ maxLen ∧ F.length ≤ cf ∧ cf ≤ maxLen ∧ v = 1 ∧ RowP L g w' ∧ RowN F f w' ∧ w.heap.size ≤ g ∧ w.heap.size ≤ f ∧ Below w.heap.size w w'
theorem tdiv_bd {a : Int} {l : Nat} (h : 0 ≤ a) (h2 : a ≤ 1000000) : 0 ≤ a.tdiv l ∧ a.tdiv l ≤ 1000000 := by
  have e : a.tdiv (l : Int) = a / (l : Int) := Int.tdiv_eq_ediv_of_nonneg h
  rw [e]
  exact ⟨Int.ediv_nonneg h (Int.natCast_nonneg _), Int.le_trans (Int.ediv_le_self _ h) h2⟩
theorem reads_int1 (w : World) (z : Int) : Reads (w.alloc (.cells #[.int .i64 z] 3)) (w.heap.size + 1) (some ⟨w.heap.size, 0, none⟩) 1 (ivs [z]) := by
  refine ⟨rfl, fun _ => ⟨w.heap.size, 0, rfl, by omega, ?_⟩⟩
  intro j u hu
  match j, hu with
  | 0, hu =>
    simp only [ivs, List.map_cons, List.map_nil, List.getElem?_cons_zero, Option.some.injEq] at hu
    subst hu
    simp [World.cell?_alloc_new]
  | j + 1, hu => simp [ivs] at hu
theorem OwnN.shape {W : World} {base : Nat} {v : Value} {F : List Int} (h : OwnN W base v F) : ∃ A c, v = .slice A F.length c := by
  rcases h.2 with ⟨hv, h1⟩ | ⟨g, cap, cur, hv, _⟩
  · exact ⟨none, 0, by rw [hv, h1]⟩
  · exact ⟨_, cap, hv⟩
/-- While the spans are made. -/
def N1St (w : World) (v1 : Value) (L : List Sp) (W : World) : Prop := Box3 W w.heap.size (.int .i64 0) (.slice none 0 0) (.slice none 0 0) ∧ Free W w.heap.size ∧ Box3 W (w.heap.size + 1) (.int .i64 1) v1 (.slice none 0 0) ∧ Free W (w.heap.size + 1) ∧ OwnP W (w.heap.size + 2) v1 L ∧ Below w.heap.size w W
theorem N1St.drew {w W : World} {v1 : Value} {L : List Sp} (h : N1St w v1 L W) : N1St w v1 L W.drew := ⟨h.1, h.2.1, h.2.2.1, h.2.2.2.1, h.2.2.2.2.1, h.2.2.2.2.2.drew⟩
theorem size_le_alloc (W : World) (o : Obj) : W.heap.size ≤ (W.alloc o).heap.size := by simp
theorem N1St.bel {w W W' : World} {v1 : Value} {L : List Sp} (h : N1St w v1 L W) (hb : Below (w.heap.size + 2) W W') : Box3 W' w.heap.size (.int .i64 0) (.slice none 0 0) (.slice none 0 0) ∧ Free W' w.heap.size ∧ Box3 W' (w.heap.size + 1) (.int .i64 1) v1 (.slice none 0 0) ∧ Free W' (w.heap.size + 1) ∧ True ∧ True := by
  obtain ⟨h1, h2, h3, h4, h5, h6⟩ := h
  exact ⟨h1.below hb (by omega), h2.below hb (by omega), h3.below hb (by omega), h4.below hb (by omega), trivial, trivial⟩
theorem N1St.alloc {w W : World} {v1 : Value} {L : List Sp} (h : N1St w v1 L W) (o : Obj) : N1St w v1 L (W.alloc o) := by
  obtain ⟨h1, h2, h3, h4, h5, h6⟩ := h
  have ba := (Below.refl W.heap.size W).alloc (Nat.le_refl _) o
  exact ⟨h1.below ba h1.1, h2.below ba h1.1, h3.below ba h3.1, h4.below ba h3.1, h5.alloc o, h6.alloc h6.size o⟩
theorem N1St.app {w W W' : World} {v1 v' : Value} {L L' : List Sp} (h : N1St w v1 L W) (hb : Below (w.heap.size + 2) W W') (ho : OwnP W' (w.heap.size + 2) v' L') : N1St w v' L' (W'.setCell ⟨w.heap.size + 1, 1, none⟩ v') := by
  obtain ⟨h1, h2, h3, h4, h5, h6⟩ := h
  exact ⟨(h1.below hb (by omega)).far (by simp) _, (h2.below hb (by omega)).set _ _, (h3.below hb (by omega)).set _ _, (h4.below hb (by omega)).set _ _, ho.set (by simp) _, (h6.trans (hb.mono (by omega))).setCell (by simp) _⟩
/-- While the forwards are made. -/
def N2St (w : World) (g m c : Nat) (v2 : Value) (L : List Sp) (F : List Int) (H : Nat) (W : World) : Prop := Box3 W w.heap.size (.int .i64 0) (.slice none 0 0) (.slice none 0 0) ∧ Free W w.heap.size ∧ Box3 W (w.heap.size + 1) (.int .i64 1) (.slice (some ⟨g, 0, none⟩) m c) v2 ∧ Free W (w.heap.size + 1) ∧ RowP L g W ∧ OwnN W H v2 F ∧ Below w.heap.size w W ∧
  H ≤ W.heap.size ∧ g < H ∧ w.heap.size + 2 ≤ g
theorem N2St.app {w W W' : World} {g m c H : Nat} {v2 v' : Value} {L : List Sp} {F F' : List Int} (h : N2St w g m c v2 L F H W) (hb : Below H W W') (ho : OwnN W' H v' F') : N2St w g m c v' L F' H (W'.setCell ⟨w.heap.size + 1, 2, none⟩ v') := by
  obtain ⟨h1, h2, h3, h4, h5, h6, h7, h8, h9, h10⟩ := h
  exact ⟨(h1.below hb (by omega)).far (by simp) _, (h2.below hb (by omega)).set _ _, (h3.below hb (by omega)).set2 _ _, (h4.below hb (by omega)).set _ _, (h5.below hb h9).set (by simp; omega) _, ho.set (by simp; omega) _, (h7.trans (hb.mono (by omega))).setCell (by simp) _, by simpa using Nat.le_trans h8 hb.size, h9, h10⟩
theorem N2St.alloc {w W : World} {g m c H : Nat} {v2 : Value} {L : List Sp} {F : List Int} (h : N2St w g m c v2 L F H W) (o : Obj) : N2St w g m c v2 L F H (W.alloc o) := by
  obtain ⟨h1, h2, h3, h4, h5, h6, h7, h8, h9, h10⟩ := h
  have ba := (Below.refl W.heap.size W).alloc (Nat.le_refl _) o
  exact ⟨h1.below ba h1.1, h2.below ba h1.1, h3.below ba h3.1, h4.below ba h3.1, h5.below ba h5.1, h6.alloc o, h7.alloc h7.size o, Nat.le_trans h8 ba.size, h9, h10⟩
theorem N2St.bel {w W W' : World} {g m c H : Nat} {v2 : Value} {L : List Sp} {F : List Int} (h : N2St w g m c v2 L F H W) (hb : Below H W W') : Box3 W' w.heap.size (.int .i64 0) (.slice none 0 0) (.slice none 0 0) ∧ Free W' w.heap.size ∧ Box3 W' (w.heap.size + 1) (.int .i64 1) (.slice (some ⟨g, 0, none⟩) m c) v2 ∧ Free W' (w.heap.size + 1) := by
  obtain ⟨h1, h2, h3, h4, h5, h6, h7, h8, h9, h10⟩ := h
  exact ⟨h1.below hb (by omega), h2.below hb (by omega), h3.below hb (by omega), h4.below hb (by omega)⟩
set_option maxHeartbeats 8000000 in
set_option maxRecDepth 20000 in
theorem dnew_any (slots live : Nat) (h1 : 1 ≤ live) (h2 : live ≤ slots) (h3 : slots ≤ 6) (w : World) : Calls Try.prog 93 #[.int .i64 (slots : Int), .int .i64 (live : Int)] w (RetG slots w) := by
  have hi1 : (1 : Int) ≤ (live : Int) := by omega
  have hi2 : (live : Int) ≤ (slots : Int) := by omega
  have hi3 : (slots : Int) ≤ 6 := by omega
  have HG := hide (spN_good h1 h2 h3)
  have hd1 : decide ((live : Int) < 1) = false := by rw [decide_eq_false_iff_not]; omega
  have hd2 : decide ((6 : Int) < (slots : Int)) = false := by rw [decide_eq_false_iff_not]; omega
  have hd3 : decide (slots < live) = false := by rw [decide_eq_false_iff_not]; omega
  have X1 := Box3.new (w.alloc (.cells #[.int .i64 0, .slice none 0 0, .slice none 0 0] 40)) (.int .i64 1) (.slice none 0 0) (.slice none 0 0) 40
  have F1 := Free.new (w.alloc (.cells #[.int .i64 0, .slice none 0 0, .slice none 0 0] 40)) #[.int .i64 1, .slice none 0 0, .slice none 0 0] 40
  rw [World.size_alloc] at X1 F1
  have ba := (Below.refl (w.alloc (.cells #[.int .i64 0, .slice none 0 0, .slice none 0 0] 40)).heap.size (w.alloc (.cells #[.int .i64 0, .slice none 0 0, .slice none 0 0] 40))).alloc (Nat.le_refl _) (.cells #[.int .i64 1, .slice none 0 0, .slice none 0 0] 40)
  have P0 : N1St w (.slice none 0 0) (spN live 0) ((w.alloc (.cells #[.int .i64 0, .slice none 0 0, .slice none 0 0] 40)).alloc (.cells #[.int .i64 1, .slice none 0 0, .slice none 0 0] 40)) :=
    ⟨(Box3.new w _ _ _ 40).below ba (by simp), (Free.new w _ 40).below ba (by simp), X1, F1, OwnP.nil _ _, ((Below.refl _ _).alloc (Nat.le_refl _) _).alloc (by simp) _⟩
  clear X1 F1 ba
  go_enter Try.func93, Try.ntmps93
  go_upto_region 4 with fail
  generalize (w.alloc (.cells #[.int .i64 0, .slice none 0 0, .slice none 0 0] 40)).alloc (.cells #[.int .i64 1, .slice none 0 0, .slice none 0 0] 40) = wx at *
  have HP := hide P0
  clear P0
  go_wp2_with fail
  go_loopw [7] (fun i wr => ∃ (k : Nat) (v1 : Value), k ≤ live ∧ i = .int .i64 k ∧ Hid (N1St w v1 (spN live k) wr)) (fun i _ => live - (intOf i).toNat)
  case atStart => exact ⟨0, _, Nat.zero_le _, rfl, HP⟩
  case round =>
    clear HP
    obtain ⟨k, v1, hk, rfl, HP⟩ := hrel
    by_cases hlt : k < live
    · have hki : (k : Int) < (live : Int) := by omega
      have hk0 : (0 : Int) ≤ (k : Int) := by omega
      have PA := (HP.out.alloc (.cells #[.int .i64 (((k : Int) * 65536).tdiv live), .int .i64 ((((k : Int) + 1) * 65536).tdiv live - 1), .int .i64 (k : Int)] 44)).drew
      have RDL := RdP.lit wr (((k : Int) * 65536).tdiv live) ((((k : Int) + 1) * 65536).tdiv live - 1) k 44
      obtain ⟨_, _, XB, FB, _, _⟩ := id HP.out
      obtain ⟨_, q0, q1, q2⟩ := XB
      have f1 := FB 1
      obtain ⟨_, _, XB, FB, _, _⟩ := id (HP.out.alloc (.cells #[.int .i64 (((k : Int) * 65536).tdiv live), .int .i64 ((((k : Int) + 1) * 65536).tdiv live - 1), .int .i64 (k : Int)] 44))
      obtain ⟨_, qa0, qa1, qa2⟩ := XB
      have fa1 := FB 1
      have s1 : IntKind.i64.wrap ((k : Int) * 65536) = (k : Int) * 65536 := IntWalk.i64_in _ (by omega)
      have s2 : IntKind.i64.wrap ((k : Int) + 1) = (k : Int) + 1 := IntWalk.i64_in _ (by omega)
      have s3 : IntKind.i64.wrap (((k : Int) + 1) * 65536) = ((k : Int) + 1) * 65536 := IntWalk.i64_in _ (by omega)
      have hl0 : live ≠ 0 := by omega
      obtain ⟨d1, d2⟩ := tdiv_bd (a := (k : Int) * 65536) (l := live) (by omega) (by omega)
      obtain ⟨d3, d4⟩ := tdiv_bd (a := ((k : Int) + 1) * 65536) (l := live) (by omega) (by omega)
      have s4 : IntKind.i64.wrap (((k : Int) * 65536).tdiv live) = ((k : Int) * 65536).tdiv live := IntWalk.i64_in _ (by omega)
      have s5 : IntKind.i64.wrap ((((k : Int) + 1) * 65536).tdiv live) = (((k : Int) + 1) * 65536).tdiv live := IntWalk.i64_in _ (by omega)
      have s6 : IntKind.i64.wrap ((((k : Int) + 1) * 65536).tdiv live - 1) = (((k : Int) + 1) * 65536).tdiv live - 1 := IntWalk.i64_in _ (by omega)
      have hlen0 : (spN live k).length + 1 ≤ 1000000 := by rw [spN_length]; omega
      have hb0 : w.heap.size + 2 ≤ (wr.alloc (.cells #[.int .i64 (((k : Int) * 65536).tdiv live), .int .i64 ((((k : Int) + 1) * 65536).tdiv live - 1), .int .i64 (k : Int)] 44)).drew.heap.size := PA.2.2.1.1
      go_upto_region 7 with fail
      go_region_law (first
        | (refine step_app3 rfl _ _ rfl rfl PA.2.2.2.2.1 rfl RDL rfl hlen0 hb0 ?_; intro v' w' hown' hb'; obtain ⟨Aq, cq, hvq⟩ := hown'.shape; subst hvq; have P2 := PA.app hb' hown'; obtain ⟨_, _, XB2, FB2, _, _⟩ := PA.bel hb'; obtain ⟨_, r0, r1, r2⟩ := XB2; have g1 := FB2 1))
      all_goals
        have HP2 := hide P2
        clear P2 PA RDL q0 q1 q2 qa0 qa1 qa2 fa1 r0 r1 r2 f1 g1 s1 s2 s3 s4 s5 s6
        go_wp2_with fail
        go_roundw
        case rel => exact ⟨k + 1, _, by omega, by go_num, by rw [spN_succ]; have h := HP2.out; rw [List.length_append] at h; exact hide h⟩
        case measure => simp [intOf]; omega
    · obtain rfl : k = live := by omega
      obtain ⟨XR, FR, XB, FB, hown, WB⟩ := id HP.out
      obtain ⟨g, c, hv1, hgc, hcm, hgb, hrow⟩ := hown.head (by rw [spN_length]; exact h1)
      rw [spN_length] at hv1 hgc
      subst hv1
      have HR := hide hrow
      clear hown hrow HP
      obtain ⟨H, hH⟩ : ∃ H, N2St w g k c (.slice none 0 0) (spN k k) (List.replicate 0 (-1)) H wr := ⟨wr.heap.size, XR, FR, XB, FB, HR.out, OwnN.nil _ _, WB, Nat.le_refl _, HR.out.1, hgb⟩
      have P0 := hH
      clear hH
      have HP := hide P0
      clear P0 XR FR XB FB WB HR
      go_wp2_with fail
      go_loopw [8] (fun i wy => ∃ (j : Nat) (v2 : Value), j ≤ slots ∧ i = .int .i64 j ∧ Hid (N2St w g k c v2 (spN k k) (List.replicate j (-1)) H wy)) (fun i _ => slots - (intOf i).toNat)
      case atStart => exact ⟨0, _, Nat.zero_le _, rfl, HP⟩
      case round =>
        clear HP
        obtain ⟨j, v2, hj, rfl, HP⟩ := hrel
        by_cases hlt : j < slots
        · have hki : (j : Int) < (slots : Int) := by omega
          have hk0 : (0 : Int) ≤ (j : Int) := by omega
          have PA := HP.out.alloc (.cells #[.int .i64 (-1)] 3)
          obtain ⟨_, _, XB, FB, hown, _, _, hH, _, _⟩ := id PA
          obtain ⟨_, _, XB0, _⟩ := id HP.out
          obtain ⟨_, q0, q1, q2⟩ := XB0
          obtain ⟨_, qa0, qa1, qa2⟩ := XB
          have hlen0 : (List.replicate j (-1 : Int)).length + 1 ≤ 1000000 := by simp; omega
          have RL : Reads (wr.alloc (.cells #[.int .i64 (-1)] 3)) (wr.heap.size + 1) (some ⟨wr.heap.size, 0, none⟩) 1 (ivs [-1]) := reads_int1 wr (-1)
          go_wp2_with (first
            | (at_builtin; refine wpList_appN rfl _ _ rfl rfl PA.2.2.2.2.2.1 rfl RL rfl hlen0 hH ?_; intro v' w' hown' hb'; obtain ⟨Aq, cq, hvq⟩ := hown'.shape; subst hvq; have P2 := PA.app hb' hown'; obtain ⟨_, _, XB2, FB2⟩ := PA.bel hb'; obtain ⟨_, r0, r1, r2⟩ := XB2; have g2 := FB2 2))
          have HP2 := hide P2
          clear P2 PA q0 q1 q2 qa0 qa1 qa2 r0 r1 r2 g2 RL hown hb' hown' FB FB2
          go_roundw
          case rel => exact ⟨j + 1, _, by omega, by go_num, by rw [List.replicate_succ']; have h := HP2.out; rw [List.length_append, List.length_replicate] at h; exact hide h⟩
          case measure => simp [intOf]; omega
        · obtain rfl : j = slots := by omega
          obtain ⟨XR, FR, XB, FB, hrow, hown, WB, _, _, _⟩ := id HP.out
          obtain ⟨f, cf, hv2, hfc, hfm, hfb, hrowF, _⟩ := hown.head (by simp; omega)
          rw [List.length_replicate] at hv2
          subst hv2
          obtain ⟨_, q0, q1, q2⟩ := XB
          obtain ⟨_, p0, p1, p2⟩ := XR
          have f0 := FR 0
          have f1 := FR 1
          have f2 := FR 2
          have HRF := hide hrowF
          have HRL := hide hrow
          have HWB := hide WB
          clear hown hrow hrowF WB HP
          go_wp2_with fail
          refine bodyPost_ret (v := .tuple #[.agg #[.int .i64 1, .slice (some ⟨g, 0, none⟩) k c, .slice (some ⟨f, 0, none⟩) j cf], .int .i64 0]) (by simp [results, Try.results93, go_sem, p0, p1, p2]) rfl ⟨1, g, c, f, cf, spN k k, List.replicate j (-1), by rw [spN_length, List.length_replicate], HG.out, by simp, by rw [spN_length]; omega, by rw [spN_length]; exact hgc, hcm, hfc, hfm, rfl, ?_, ?_, by omega, by omega, ?_⟩
          · exact ((HRL.out.set (p := ⟨w.heap.size, 0, none⟩) (by simp; omega) _).set (p := ⟨w.heap.size, 1, none⟩) (by simp; omega) _).set (p := ⟨w.heap.size, 2, none⟩) (by simp; omega) _
          · exact ((HRF.out.set (p := ⟨w.heap.size, 0, none⟩) (by simp; omega) _).set (p := ⟨w.heap.size, 1, none⟩) (by simp; omega) _).set (p := ⟨w.heap.size, 2, none⟩) (by simp; omega) _
          · exact ((HWB.out.setCell (p := ⟨w.heap.size, 0, none⟩) (Nat.le_refl _) _).setCell (p := ⟨w.heap.size, 1, none⟩) (Nat.le_refl _) _).setCell (p := ⟨w.heap.size, 2, none⟩) (Nat.le_refl _) _
end Go.Proofs.Ytaoiekcoiooghaa
