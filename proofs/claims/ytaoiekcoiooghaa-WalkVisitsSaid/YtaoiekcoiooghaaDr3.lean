/- Rows of spans: cells, reading, owning, and append onto a row of the call's own. No condition. -/
import Derived.Test.YtaoiekcoiooghaaDr2
import Derived.Deep.RegionLaw
namespace Go.Proofs.Ytaoiekcoiooghaa
open Go.RowKit
/-- The cells of spans. -/
def cellsP : List Sp → List Value
  | [] => []
  | x :: r => .int .i64 x.lo :: .int .i64 x.hi :: .int .i64 x.sh :: cellsP r
theorem cellsP_length : ∀ L : List Sp, (cellsP L).length = L.length * 3
  | [] => rfl
  | x :: r => by simp [cellsP, cellsP_length r]; omega
theorem cellsP_append : ∀ L M : List Sp, cellsP (L ++ M) = cellsP L ++ cellsP M
  | [], M => rfl
  | x :: r, M => by simp [cellsP, cellsP_append r M]
theorem cellsP_get : ∀ (L : List Sp) (k : Nat) (x : Sp), L[k]? = some x → (cellsP L)[k * 3]? = some (.int .i64 x.lo) ∧ (cellsP L)[k * 3 + 1]? = some (.int .i64 x.hi) ∧ (cellsP L)[k * 3 + 2]? = some (.int .i64 x.sh)
  | [], k, x, h => by simp at h
  | y :: r, 0, x, h => by simp at h; subst h; simp [cellsP]
  | y :: r, k + 1, x, h => by
    have := cellsP_get r k x (by simpa using h)
    simp only [cellsP, show (k + 1) * 3 = k * 3 + 1 + 1 + 1 by omega, show k * 3 + 1 + 1 + 1 + 1 = (k * 3 + 1) + 1 + 1 + 1 by omega, show k * 3 + 1 + 1 + 1 + 2 = (k * 3 + 2) + 1 + 1 + 1 by omega, List.getElem?_cons_succ]
    exact this
theorem cellsP_one : ∀ (L : List Sp), ∀ u ∈ cellsP L, u.oneCell' = true
  | [], u, h => by cases h
  | x :: r, u, h => by
    simp only [cellsP, List.mem_cons] at h
    rcases h with rfl | rfl | rfl | h
    · rfl
    · rfl
    · rfl
    · exact cellsP_one r u h
theorem cellsP_inv : ∀ (L : List Sp) (j : Nat) (u : Value), (cellsP L)[j]? = some u → ∃ k x, L[k]? = some x ∧ ((j = k * 3 ∧ u = .int .i64 x.lo) ∨ (j = k * 3 + 1 ∧ u = .int .i64 x.hi) ∨ (j = k * 3 + 2 ∧ u = .int .i64 x.sh))
  | [], j, u, h => by simp [cellsP] at h
  | x :: r, 0, u, h => ⟨0, x, rfl, .inl ⟨rfl, by simpa [cellsP] using h.symm⟩⟩
  | x :: r, 1, u, h => ⟨0, x, rfl, .inr (.inl ⟨rfl, by simpa [cellsP] using h.symm⟩)⟩
  | x :: r, 2, u, h => ⟨0, x, rfl, .inr (.inr ⟨rfl, by simpa [cellsP] using h.symm⟩)⟩
  | x :: r, j + 3, u, h => by
    obtain ⟨k, y, h1, h2⟩ := cellsP_inv r j u (by simpa [cellsP] using h)
    refine ⟨k + 1, y, by simpa using h1, ?_⟩
    rcases h2 with ⟨h2, h3⟩ | ⟨h2, h3⟩ | ⟨h2, h3⟩
    · exact .inl ⟨by omega, h3⟩
    · exact .inr (.inl ⟨by omega, h3⟩)
    · exact .inr (.inr ⟨by omega, h3⟩)
/-- A slice value reads as spans. -/
def RdP (W : World) (A : Option Addr) (m : Nat) (L : List Sp) : Prop := L.length = m ∧ (0 < m → ∃ b o, A = some ⟨b, o, none⟩ ∧ ∀ j u, (cellsP L)[j]? = some u → W.cell? ⟨b, o + j, none⟩ = some u)
theorem RowP.rd {L : List Sp} {g : Nat} {W : World} (h : RowP L g W) : RdP W (some ⟨g, 0, none⟩) L.length L := by
  refine ⟨rfl, fun _ => ⟨g, 0, rfl, fun j u hu => ?_⟩⟩
  obtain ⟨k, x, hx, hc⟩ := cellsP_inv L j u hu
  obtain ⟨c0, c1, c2⟩ := h.2 k x hx
  rw [Nat.zero_add]
  rcases hc with ⟨rfl, rfl⟩ | ⟨rfl, rfl⟩ | ⟨rfl, rfl⟩
  · exact c0
  · exact c1
  · exact c2
theorem RdP.take_ {W : World} {A : Option Addr} {m k : Nat} {L : List Sp} (h : RdP W A m L) (hk : k ≤ m) : RdP W A k (L.take k) := by
  refine ⟨by rw [List.length_take, h.1]; omega, fun hp => ?_⟩
  obtain ⟨b, o, e, hc⟩ := h.2 (by omega)
  refine ⟨b, o, e, fun j u hu => hc j u ?_⟩
  obtain ⟨i, x, hx, hu'⟩ := cellsP_inv _ j u hu
  rw [List.getElem?_take] at hx
  split at hx
  · obtain ⟨c0, c1, c2⟩ := cellsP_get L i x hx
    rcases hu' with ⟨rfl, rfl⟩ | ⟨rfl, rfl⟩ | ⟨rfl, rfl⟩
    · exact c0
    · exact c1
    · exact c2
  · cases hx
/-- The spans from place k on. -/
theorem RowP.drop_ {L : List Sp} {g : Nat} {W : World} (h : RowP L g W) {k m : Nat} (hm : L.length = m) (A : Option Addr) (hA : k < m → A = some ⟨g, k * 3, none⟩) : RdP W A (m - k) (L.drop k) := by
  refine ⟨by rw [List.length_drop, hm], fun hp => ⟨g, k * 3, hA (by omega), fun j u hu => ?_⟩⟩
  obtain ⟨i, x, hx, hu'⟩ := cellsP_inv _ j u hu
  rw [List.getElem?_drop] at hx
  obtain ⟨c0, c1, c2⟩ := h.2 (k + i) x hx
  rcases hu' with ⟨rfl, rfl⟩ | ⟨rfl, rfl⟩ | ⟨rfl, rfl⟩
  · rw [show k * 3 + i * 3 = (k + i) * 3 by omega]; exact c0
  · rw [show k * 3 + (i * 3 + 1) = (k + i) * 3 + 1 by omega]; exact c1
  · rw [show k * 3 + (i * 3 + 2) = (k + i) * 3 + 2 by omega]; exact c2
theorem info44 : (Try.prog.info? 44).map (fun i => (i.zero, i.size, i.bytes)) = some (some (.agg #[.int .i64 0, .int .i64 0, .int .i64 0]), 3, 24) := by kernel_rfl
/-- A row of spans of the call's own. -/
def OwnP (W : World) (base : Nat) (v : Value) (L : List Sp) : Prop := W.ownsRow base 44 3 v L.length (cellsP L)
theorem OwnP.nil (W : World) (base : Nat) : OwnP W base (.slice none 0 0) [] := World.ownsRow_nil _ _ _ _
theorem OwnP.alloc {W : World} {base : Nat} {v : Value} {L : List Sp} (h : OwnP W base v L) (o : Obj) : OwnP (W.alloc o) base v L := World.ownsRow.alloc h o
theorem OwnP.head {W : World} {base : Nat} {v : Value} {L : List Sp} (h : OwnP W base v L) (hL : 0 < L.length) : ∃ g c, v = .slice (some ⟨g, 0, none⟩) L.length c ∧ L.length ≤ c ∧ c ≤ maxLen ∧ base ≤ g ∧ RowP L g W := by
  have h0 := h
  rcases h.2 with ⟨_, h1⟩ | ⟨g, cap, cur, rfl, hb, hg, hnc, hcm, _⟩
  · omega
  · refine ⟨g, cap, rfl, hnc, hcm, hb, (Array.getElem?_eq_some_iff.1 hg).1, fun k x hx => ?_⟩
    have hk : k < L.length := (List.getElem?_eq_some_iff.1 hx).1
    obtain ⟨c0, c1, c2⟩ := cellsP_get L k x hx
    exact ⟨(World.ownsRow.cellAt h0 _ (by omega)).trans c0, (World.ownsRow.cellAt h0 _ (by omega)).trans c1, (World.ownsRow.cellAt h0 _ (by omega)).trans c2⟩
theorem OwnP.shape {W : World} {base : Nat} {v : Value} {L : List Sp} (h : OwnP W base v L) : ∃ A c, v = .slice A L.length c := by
  rcases h.2 with ⟨hv, h1⟩ | ⟨g, cap, cur, hv, _⟩
  · exact ⟨none, 0, by rw [hv, h1]⟩
  · exact ⟨_, cap, hv⟩
theorem OwnP.kept {W W' : World} {base : Nat} {v : Value} {L : List Sp} (h : OwnP W base v L) (hb : Below W.heap.size W W') : OwnP W' base v L := by
  refine World.ownsRow.kept (row := none) h ⟨hb.os, hb.tape, hb.output, hb.size, fun k hk _ => hb.block k hk⟩ ?_
  cases v.ownBlock <;> simp
section
variable {P : Program} (w : World)
theorem run_append_of_nil_sz (base size : Nat) (t ty e : TypeId) (i : TypeInfo) (ht : P.underlying t = some (.slice e)) (hi : P.info? e = some i)
    (v : Value) (n : Nat) (xs : List Value) (hown : w.ownsRow base e size v n xs) (c : Nat) : (Builtin.append_ #[t, t] ty #[v, .slice none 0 c]).run P w = .ok v w := by
  rcases hown.2 with ⟨rfl, rfl⟩ | ⟨g, cap, cur, rfl, _, _, hnc, _⟩
  · simp [Builtin.append_, run_underlying ht, sizeOf, typeInfo, hi, Builtin.lenOf, Builtin.firstCells]
  · simp [Builtin.append_, run_underlying ht, sizeOf, typeInfo, hi, Builtin.lenOf, Builtin.firstCells, hnc, storeCells]
end
set_option maxRecDepth 20000 in
theorem run_app3 (w : World) {base : Nat} {v : Value} {L : List Sp} (hown : OwnP w base v L) {A : Option Addr} {m c : Nat} {M : List Sp} (hr : RdP w A m M) (hlen : L.length + M.length ≤ 1000000) (hbase : base ≤ w.heap.size) (ty : TypeId) (_hty : ty = 38) :
    ∃ v' w', (Builtin.append_ #[38, 38] ty #[v, .slice A m c]).run Try.prog w = .ok v' w' ∧ OwnP w' base v' (L ++ M) ∧ w.grownBy w' v.ownBlock := by
  obtain ⟨i0, hi0, hz0, hz1, hz2⟩ := info_parts info44
  have hm : m = M.length := hr.1.symm
  subst hm
  rcases A with _ | ad
  · have h0 : M.length = 0 := by
      rcases Nat.eq_zero_or_pos M.length with h0 | h0
      · exact h0
      · obtain ⟨_, _, h, _⟩ := hr.2 h0
        cases h
    have hM : M = [] := List.eq_nil_of_length_eq_zero h0
    subst hM
    exact ⟨v, w, run_append_of_nil_sz w base 3 38 ty 44 i0 Try.underlying38 hi0 v _ _ hown c, by simpa using hown, World.grownBy.refl w _⟩
  · have hcells : ∀ j u, (cellsP M)[j]? = some u → w.cell? (ad.add j) = some u := by
      intro j u hu
      rcases Nat.eq_zero_or_pos M.length with h0 | h0
      · obtain rfl := List.eq_nil_of_length_eq_zero h0
        simp [cellsP] at hu
      · obtain ⟨b, o, h, hc⟩ := hr.2 h0
        injection h with h
        subst h
        rw [add_plain]
        exact hc j u hu
    obtain ⟨v', w', hrun, h2, h3, _, _⟩ := run_append_own_at (P := Try.prog) w base 38 ty 44 i0 _ 3 24 Try.underlying38 hi0 hz0 hz1 hz2 rfl (by decide) v L.length (cellsP L) hown ad M.length c (cellsP M) (cellsP_length M) hcells (cellsP_one M) (by simp only [maxLen]; omega) (by omega) hbase
    refine ⟨v', w', hrun, ?_, h3⟩
    unfold OwnP
    rw [cellsP_append, List.length_append]
    exact h2
theorem step_app3 {w : World} {ops : Array Oper} {o : Oper} {a : Act} {K : Act → World → Prop} {Q : Exit → Act → World → Prop} {E : Prop} (hgd : o.guard = none) (s x : Operand)
    (ho : o.op = .call { callee := .builtin .append, args := #[s, x], argTypes := #[38, 38] }) (hty : o.type = 38)
    {base : Nat} {v : Value} {L : List Sp} (hown : OwnP w base v L) (hs : a.eval s = v)
    {A : Option Addr} {m c : Nat} {M : List Sp} (hr : RdP w A m M) (hx : a.eval x = .slice A m c)
    (hlen : L.length + M.length ≤ 1000000) (hbase : base ≤ w.heap.size)
    (h : ∀ v' w', OwnP w' base v' (L ++ M) → Below base w w' → K (a.put o.dst v') w') :
    if Region.wanted o (yielded ops a.tmps) = true then Oper.wp Try.prog o a w K Q else E := by
  have hw : Region.wanted o (yielded ops a.tmps) = true := by simp [Region.wanted, hgd]
  rw [if_pos hw]
  obtain ⟨v', w', hrun, h2, h3⟩ := run_app3 w hown (c := c) hr hlen hbase o.type hty
  unfold Oper.wp execOp
  simp only [ho, resolve, invoke, builtin, Sem.run_bind, Sem.run_pure, Result.andThen_ok, List.map_toArray, List.map_cons, List.map_nil, hs, hx, hrun]
  exact h v' w' h2 ((Below.refl base w).grown h3 hbase fun k hk => (World.ownsRow.lt hown k hk).1)
end Go.Proofs.Ytaoiekcoiooghaa
