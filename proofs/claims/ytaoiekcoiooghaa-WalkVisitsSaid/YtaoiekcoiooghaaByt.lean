/- Rows of bytes that a call made itself: what it means to own one, and append onto it. No condition. -/
import Derived.Test.YtaoiekcoiooghaaProg
import Derived.Test.YtaoiekcoiooghaaApp
import Derived.Test.YtaoiekcoiooghaaPlain
import Derived.Laws.BytesString
import Derived.Lib.AppendStr
import Derived.Laws.BytesArg
import Derived.Laws.StructEq
namespace Go.Proofs.Ytaoiekcoiooghaa
open Go.RowKit

theorem info5 : (Try.prog.info? 5).map (fun i => (i.zero, i.size, i.bytes)) = some (some (.int .u8 0), 1, 1) := by kernel_rfl

/-- The value v is a slice of the bytes l in a row of the call's own (blocks from base on). -/
def OwnB (w : World) (base : Nat) (v : Value) (l : List UInt8) : Prop := w.ownsRow base 5 1 v l.length (bvs l)

section
variable {w w' : World} {base : Nat} {v : Value} {l : List UInt8}
theorem OwnB.nil (w : World) (base : Nat) : OwnB w base (.slice none 0 0) [] := World.ownsRow_nil _ _ _ _
theorem OwnB.alloc (h : OwnB w base v l) (o : Obj) : OwnB (w.alloc o) base v l := World.ownsRow.alloc h o
theorem OwnB.drew (h : OwnB w base v l) : OwnB w.drew base v l := h
theorem OwnB.drewN (h : OwnB w base v l) (n : Nat) : OwnB (w.drewN n) base v l := h
theorem OwnB.lt (h : OwnB w base v l) : ∀ k, v.ownBlock = some k → base ≤ k ∧ k < w.heap.size := World.ownsRow.lt h
theorem OwnB.less (h : OwnB w base v l) {b : Nat} (hb : b ≤ base) : OwnB w b v l := by
  refine ⟨h.1, ?_⟩
  rcases h.2 with h2 | ⟨g, cap, cur, hv, hg, rest⟩
  · exact .inl h2
  · exact .inr ⟨g, cap, cur, hv, by omega, rest⟩
theorem OwnB.shape (h : OwnB w base v l) : ∃ A c, v = .slice A l.length c ∧ l.length ≤ c ∧ c ≤ maxLen ∧ Reads w w.heap.size A l.length (bvs l) := by
  obtain ⟨A, c, rfl, h1, h2, _⟩ := own_slice h
  exact ⟨A, c, rfl, h1, h2, Reads.of_own h⟩
/-- Kept by whatever leaves the blocks below its size alone. -/
theorem OwnB.below {B : Nat} (h : OwnB w base v l) (hb : Below B w w') (hB : w.heap.size ≤ B) : OwnB w' base v l := by
  refine World.ownsRow.kept (row := none) h ⟨hb.os, hb.tape, hb.output, hb.size, fun k hk _ => hb.block k (by omega)⟩ ?_
  cases v.ownBlock <;> simp
theorem OwnB.grown {row : Option Nat} (h : OwnB w base v l) (hg : w.grownBy w' row) (hne : v.ownBlock = none ∨ v.ownBlock ≠ row) : OwnB w' base v l := World.ownsRow.kept h hg hne
end

/-- 'append(s, x...)' where s is a row of bytes of the call's own. -/
theorem wpList_app {w : World} {ops : Array Oper} {rest : List Oper} {o : Oper} {a : Act} {Q : Exit → Act → World → Prop} (hgd : o.guard = none) (s x : Operand)
    (ho : o.op = .call { callee := .builtin .append, args := #[s, x], argTypes := #[47, 47] })
    {base : Nat} {v : Value} {l : List UInt8} (hown : OwnB w base v l) (hs : a.eval s = v)
    {B : Nat} {A : Option Addr} {m c : Nat} {news : List UInt8} (hr : Reads w B A m (bvs news)) (hx : a.eval x = .slice A m c)
    (hlen : l.length + news.length ≤ 1099511627776) (hbase : base ≤ w.heap.size)
    (h : ∀ v' w', OwnB w' base v' (l ++ news) → w.grownBy w' v.ownBlock → Below base w w' → (v'.ownBlock = v.ownBlock ∨ v'.ownBlock = some w.heap.size) → wpList Try.prog ops Q rest (a.put o.dst v') w') :
    wpList Try.prog ops Q (o :: rest) a w := by
  obtain ⟨i0, hi0, hz0, hz1, hz2⟩ := info_parts info5
  have hm : m = news.length := by have := hr.1; rw [bvs_length] at this; omega
  subst hm
  refine wpList_append_any w hgd s x 47 ho base 5 i0 _ 1 Try.underlying47 hi0 hz0 hz1 hz2 rfl v l.length (bvs l) hs hown B A _ c (bvs news) hx hr (bvs_one _) (by simp only [maxLen]; omega) (by omega) hbase ?_
  intro v' w' hown' hg hat
  refine h v' w' ?_ hg ?_ hat
  · unfold OwnB
    rw [bvs_append, List.length_append]
    exact hown'
  · exact (Below.refl base w).grown hg hbase fun k hk => (hown.lt k hk).1

theorem OwnB.reads {w : World} {base : Nat} {A : Option Addr} {n c : Nat} {l : List UInt8} (h : OwnB w base (.slice A n c) l) : n = l.length ∧ Reads w w.heap.size A n (bvs l) := by
  obtain ⟨A', c', hv, _, _, hr⟩ := h.shape
  injection hv with h1 h2 h3
  subst h1 h2
  exact ⟨rfl, hr⟩
/-- A row of the call's own that is not empty: its block, its cells, that they may be written, and what a store leaves. -/
theorem OwnB.head {w : World} {base : Nat} {v : Value} {l : List UInt8} (h : OwnB w base v l) (hl : 0 < l.length) :
    ∃ g c, v = .slice (some ⟨g, 0, none⟩) l.length c ∧ l.length ≤ c ∧ c ≤ maxLen ∧ base ≤ g ∧ g < w.heap.size ∧ (∀ j (hj : j < l.length), w.cell? ⟨g, j, none⟩ = some (.int .u8 (l[j].toNat : Int))) ∧ (∀ j, w.frozen? ⟨g, j, none⟩ = false) ∧
      (∀ j (u : UInt8), OwnB (w.setCell ⟨g, j, none⟩ (.int .u8 (u.toNat : Int))) base v (l.set j u)) := by
  have h0 := h
  rcases h.2 with ⟨rfl, hn⟩ | ⟨g, cap, cur, rfl, hb, hg, hnc, hcm, hs, ht⟩
  · omega
  · refine ⟨g, cap, rfl, hnc, hcm, hb, (Array.getElem?_eq_some_iff.1 hg).1, fun j hj => ?_, fun j => World.ownsRow.frozenAt h0 j, fun j u => ?_⟩
    · rw [World.ownsRow.cellAt h0 j (by omega)]
      exact bvs_get l j hj
    · have h1 := (World.ownsRow.stored h0 j (.int .u8 (u.toNat : Int))).1
      unfold OwnB
      rw [List.length_set]
      have e : bvs (l.set j u) = (bvs l).set j (.int .u8 (u.toNat : Int)) := by simp only [bvs, List.map_set]; rfl
      rw [e]
      exact h1
/-- A literal of one byte. -/
theorem reads_lit1 (w : World) (z : Int) (b : UInt8) (hz : z = b.toNat) : Reads (w.alloc (.cells #[.int .u8 z] 5)) (w.heap.size + 1) (some ⟨w.heap.size, 0, none⟩) 1 (bvs [b]) := by
  subst hz
  refine ⟨rfl, fun _ => ⟨w.heap.size, 0, rfl, by omega, ?_⟩⟩
  intro j u hu
  match j, hu with
  | 0, hu =>
    simp only [bvs, List.map_cons, List.map_nil, List.getElem?_cons_zero, Option.some.injEq] at hu
    subst hu
    simp [bv, World.cell?_alloc_new]
  | j + 1, hu => simp [bvs] at hu
/-- What a function returns that hands back bytes in new memory, and an error code. -/
def RetB (w : World) (l : List UInt8) (code : Int) (e : Ending) (w' : World) : Prop :=
  ∃ v, e = .returned (.tuple #[v, .int .i64 code]) ∧ OwnB w' w.heap.size v l ∧ Below w.heap.size w w'

/-- The string of some bytes. -/
def bstr (l : List UInt8) : ByteArray := ⟨l.toArray⟩
theorem bstr_data (l : List UInt8) : (bstr l).data.toList = l := rfl
theorem bstr_toList (l : List UInt8) : (bstr l).toList = l := by rw [ByteArray.toList_eq]; rfl
theorem bstr_self (s : ByteArray) : bstr s.data.toList = s := by cases s; rfl
theorem bstr_size (l : List UInt8) : (bstr l).size = l.length := by simp [bstr, ByteArray.size]
theorem bstr_beq (l m : List UInt8) : ((bstr l).toList == (bstr m).toList) = decide (l = m) := by
  rw [bstr_toList, bstr_toList, Bool.eq_iff_iff]; simp
/-- 'string(b)' of a slice that reads as bytes. -/
theorem run_conv_str {w : World} {B : Nat} {A : Option Addr} {n c : Nat} {l : List UInt8} (hr : Reads w B A n (bvs l)) :
    (convert 47 9 (.slice A n c)).run Try.prog w = .ok (.string (bstr l)) w := by
  have hn : l.length = n := by have := hr.1; rwa [bvs_length] at this
  subst hn
  rw [run_convert_bytes_string (P := Try.prog) w 47 9 5 A l.length c Try.underlying47 Try.underlying5 Try.underlying9]
  rcases A with _ | a
  · have h0 : l.length = 0 := by
      rcases Nat.eq_zero_or_pos l.length with h | h
      · exact h
      · obtain ⟨_, _, h, _⟩ := hr.2 h
        cases h
    have hl : l = [] := List.eq_nil_of_length_eq_zero h0
    subst hl
    simp [Conv.bytesToString, bstr]
    rfl
  · have hx : l.map (fun x => (x.toNat : Int)) = l.map (fun x => (x.toNat : Int)) := rfl
    have hcs : bvs l = (l.map (fun x => (x.toNat : Int))).map (Value.int .u8) := by simp [bvs, bv, Function.comp_def]
    have hload : (loadCells a l.length).run Try.prog w = .ok ((l.map (fun x => (x.toNat : Int))).map (Value.int .u8)).toArray w := by
      have := run_loadCells_list (P := Try.prog) w a (bvs l) (fun j v hj => by
        have hjl : j < l.length := by
          rcases Nat.lt_or_ge j l.length with h | h
          · exact h
          · simp [List.getElem?_eq_none (show (bvs l).length ≤ j by rw [bvs_length]; exact h)] at hj
        obtain ⟨b, o, e, _, hc⟩ := hr.2 (by omega)
        injection e with e
        subst e
        rw [add_plain]
        exact hc j v hj)
      rw [bvs_length] at this
      rw [this, hcs]
    rw [run_bytesToString w a l.length c _ hload, foldl_push_bytes]
    simp only [List.map_map]
    have e : (l.map ((fun n => UInt8.ofNat n.toNat) ∘ fun x : UInt8 => (x.toNat : Int))) = l := by
      rw [List.map_congr_left (g := id) (fun x _ => by simp), List.map_id]
    rw [e]
    simp [bstr, ByteArray.empty, ByteArray.emptyWithCapacity]
    rfl

theorem strCells_bvs (s : ByteArray) : Lib.strCells s = bvs s.data.toList := rfl
theorem data_length (s : ByteArray) : s.data.toList.length = s.size := by rw [Array.length_toList]; rfl
/-- 'append(s, x...)' where s is a row of bytes of the call's own and x a string. -/
theorem wpList_app_str {w : World} {ops : Array Oper} {rest : List Oper} {o : Oper} {a : Act} {Q : Exit → Act → World → Prop} (hgd : o.guard = none) (s x : Operand)
    (ho : o.op = .call { callee := .builtin .append, args := #[s, x], argTypes := #[47, 9] })
    {base : Nat} {v : Value} {l : List UInt8} (hown : OwnB w base v l) (hs : a.eval s = v)
    {t : ByteArray} (hx : a.eval x = .string t)
    (hlen : l.length + t.size ≤ 1099511627776) (hbase : base ≤ w.heap.size)
    (h : ∀ v' w', OwnB w' base v' (l ++ t.data.toList) → w.grownBy w' v.ownBlock → Below base w w' → wpList Try.prog ops Q rest (a.put o.dst v') w') :
    wpList Try.prog ops Q (o :: rest) a w := by
  obtain ⟨i0, hi0, hz0, hz1, hz2⟩ := info_parts info5
  refine Lib.wpList_append_own_string w hgd s x 47 9 ho base 5 i0 Try.underlying47 Try.underlying9 hi0 hz0 hz1 hz2 v l.length (bvs l) hs hown t hx (by simp only [maxLen]; omega) (by omega) hbase ?_
  intro v' w' hown' hg _
  refine h v' w' ?_ hg ?_
  · unfold OwnB
    rw [bvs_append, List.length_append, data_length, ← strCells_bvs]
    exact hown'
  · exact (Below.refl base w).grown hg hbase fun k hk => (hown.lt k hk).1
end Go.Proofs.Ytaoiekcoiooghaa
