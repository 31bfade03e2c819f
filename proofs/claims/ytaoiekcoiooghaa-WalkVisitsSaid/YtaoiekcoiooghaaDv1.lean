/- Plain laws of the walk over a good directory: chains, and the closed form of the visits. No condition but those that stand in each. -/
import Derived.Test.YtaoiekcoiooghaaDr6
namespace Go.Proofs.Ytaoiekcoiooghaa
open Go.RowKit
theorem chain_hold : ∀ {L : List Sp} {a b x : Int}, chain a L b → a ≤ x → x < b → ∃ (k : Nat) (p : Sp), L[k]? = some p ∧ p.lo ≤ x ∧ x ≤ p.hi
  | [], a, b, x, h, h1, h2 => by simp only [chain] at h; omega
  | y :: r, a, b, x, h, h1, h2 => by
    obtain ⟨e, h3, h4⟩ := h
    by_cases hx : x ≤ y.hi
    · exact ⟨0, y, rfl, by omega, hx⟩
    · obtain ⟨k, p, hk, hp⟩ := chain_hold h4 (by omega) h2
      exact ⟨k + 1, p, by simpa using hk, hp⟩
theorem chain_disj : ∀ {L : List Sp} {a b : Int} {i j : Nat} {p q : Sp}, chain a L b → L[i]? = some p → L[j]? = some q → i < j → p.hi < q.lo
  | [], a, b, i, j, p, q, h, hp, hq, hij => by simp at hp
  | y :: r, a, b, 0, 0, p, q, h, hp, hq, hij => by omega
  | y :: r, a, b, i + 1, 0, p, q, h, hp, hq, hij => by omega
  | y :: r, a, b, 0, j + 1, p, q, h, hp, hq, hij => by
    obtain ⟨e, h3, h4⟩ := h
    simp only [List.getElem?_cons_zero, Option.some.injEq] at hp
    subst hp
    have := (chain_mem h4 q (List.mem_of_getElem? (by simpa using hq))).1
    omega
  | y :: r, a, b, i + 1, j + 1, p, q, h, hp, hq, hij => chain_disj h.2.2 (by simpa using hp) (by simpa using hq) (by omega)
theorem chain_next : ∀ {L : List Sp} {a b : Int} {i : Nat} {p q : Sp}, chain a L b → L[i]? = some p → L[i + 1]? = some q → q.lo = p.hi + 1
  | [], a, b, i, p, q, h, hp, hq => by simp at hp
  | y :: r, a, b, 0, p, q, h, hp, hq => by
    obtain ⟨e, h3, h4⟩ := h
    simp only [List.getElem?_cons_zero, Option.some.injEq] at hp
    subst hp
    cases r with
    | nil => simp at hq
    | cons z r => simp at hq; subst hq; exact h4.1
  | y :: r, a, b, i + 1, p, q, h, hp, hq => chain_next h.2.2 (by simpa using hp) (by simpa using hq)
theorem chain_last : ∀ {L : List Sp} {a b : Int} {i : Nat} {p : Sp}, chain a L b → L[i]? = some p → i + 1 = L.length → p.hi + 1 = b
  | [], a, b, i, p, h, hp, hi => by simp at hp
  | y :: r, a, b, 0, p, h, hp, hi => by
    obtain ⟨e, h3, h4⟩ := h
    simp only [List.getElem?_cons_zero, Option.some.injEq] at hp
    subst hp
    cases r with
    | nil => exact h4
    | cons z r => simp at hi
  | y :: r, a, b, i + 1, p, h, hp, hi => chain_last h.2.2 (by simpa using hp) (by simpa using hi)
theorem chain_first {L : List Sp} {a b : Int} {p : Sp} (h : chain a L b) (hp : L[0]? = some p) : p.lo = a := by
  cases L with
  | nil => simp at hp
  | cons y r => simp at hp; subst hp; exact h.1
/-- How often a walk from s has been at a span, when it has covered y routes. -/
def vis (s y : Int) (p : Sp) : Int := (if 0 < y ∧ s ≤ p.hi ∧ p.lo < s + y then 1 else 0) + (if p.lo + 65536 < s + y then 1 else 0)
theorem vis_zero (s : Int) (p : Sp) (h : 0 ≤ p.lo) (hs : s ≤ 65535) : vis s 0 p = 0 := by unfold vis; rw [if_neg (by omega), if_neg (by omega)]; rfl
/-- Where the walk stands: at its start; or at the lower end of a span, in the first or in the second lap. -/
def At (L : List Sp) (s : Int) (j : Nat) (t : Nat) (x y : Int) : Prop :=
  (t = 0 ∧ x = s ∧ y = 0) ∨ (∃ (k : Nat) (p : Sp), L[k]? = some p ∧ x = p.lo ∧ 0 < y ∧ ((s + y = p.lo ∧ t + j = k) ∨ (s + y = p.lo + 65536 ∧ t + j = L.length + k))) 
/-- One step: through the span k that holds x. -/
theorem vis_step {L : List Sp} {s x y : Int} {j t k : Nat} {p : Sp} (hc : chain 0 L 65536) (hs : 0 ≤ s ∧ s ≤ 65535) (hA : At L s j t x y) (hy : 0 ≤ y ∧ y ≤ 65535) (hk : L[k]? = some p) (h1 : p.lo ≤ x) (h2 : x ≤ p.hi) (i : Nat) (q : Sp) (hi : L[i]? = some q) :
    vis s (y + p.hi - x + 1) q = vis s y q + (if i = k then 1 else 0) := by
  have mp := chain_mem hc p (List.mem_of_getElem? hk)
  have mq := chain_mem hc q (List.mem_of_getElem? hi)
  have hd : (i = k ∧ q = p) ∨ (i ≠ k ∧ (q.hi < p.lo ∨ p.hi < q.lo)) := by
    rcases Nat.lt_trichotomy i k with h | h | h
    · exact .inr ⟨by omega, .inl (chain_disj hc hi hk h)⟩
    · subst h
      rw [hi] at hk
      exact .inl ⟨rfl, by injection hk⟩
    · exact .inr ⟨by omega, .inr (chain_disj hc hk hi h)⟩
  have hx : (y = 0 ∧ x = s) ∨ (0 < y ∧ x = p.lo ∧ (s + y = x ∨ s + y = x + 65536)) := by
    rcases hA with ⟨_, h3, h4⟩ | ⟨k', p', hk', h3, h4, h5⟩
    · exact .inl ⟨h4, h3⟩
    · have mp' := chain_mem hc p' (List.mem_of_getElem? hk')
      have : k' = k := by
        rcases Nat.lt_trichotomy k' k with h | h | h
        · have := chain_disj hc hk' hk h; omega
        · exact h
        · have := chain_disj hc hk hk' h; omega
      subst this
      rw [hk'] at hk
      injection hk with hk
      subst hk
      exact .inr ⟨h4, h3, by rcases h5 with ⟨h5, _⟩ | ⟨h5, _⟩ <;> omega⟩
  clear hA hk hi
  unfold vis
  rcases hd with ⟨hd, rfl⟩ | ⟨hd, hd'⟩
  · rw [if_pos hd]
    split <;> split <;> split <;> split <;> omega
  · rw [if_neg hd]
    split <;> split <;> split <;> split <;> omega
/-- Where a walk stands in a good directory, the span that holds its place is the one At names. -/
theorem at_hold {L : List Sp} {s x y : Int} {j t k : Nat} {p pj : Sp} (hc : chain 0 L 65536) (hA : At L s j t x y) (hk : L[k]? = some p) (h1 : p.lo ≤ x) (h2 : x ≤ p.hi) (hj : L[j]? = some pj) (hj1 : pj.lo ≤ s) (hj2 : s ≤ pj.hi) :
    (t = 0 ∧ y = 0 ∧ x = s ∧ k = j ∧ p = pj) ∨ (0 < y ∧ x = p.lo ∧ ((s + y = p.lo ∧ t + j = k) ∨ (s + y = p.lo + 65536 ∧ t + j = L.length + k))) := by
  rcases hA with ⟨h3, h4, h5⟩ | ⟨k', p', hk', h3, h4, h5⟩
  · subst h4
    have : k = j := by
      rcases Nat.lt_trichotomy k j with h | h | h
      · have := chain_disj hc hk hj h; omega
      · exact h
      · have := chain_disj hc hj hk h; omega
    subst this
    rw [hk] at hj
    injection hj with hj
    exact .inl ⟨h3, h5, rfl, rfl, hj⟩
  · have mp' := chain_mem hc p' (List.mem_of_getElem? hk')
    have : k' = k := by
      rcases Nat.lt_trichotomy k' k with h | h | h
      · have := chain_disj hc hk' hk h; omega
      · exact h
      · have := chain_disj hc hk hk' h; omega
    subst this
    rw [hk'] at hk
    injection hk with hk
    subst hk
    exact .inr ⟨h4, h3, h5⟩
theorem at_bound {L : List Sp} {s x y : Int} {j t k : Nat} {p pj : Sp} (hc : chain 0 L 65536) (_hs : 0 ≤ s ∧ s ≤ 65535) (hA : At L s j t x y) (hy : 0 ≤ y ∧ y ≤ 65535) (hk : L[k]? = some p) (h1 : p.lo ≤ x) (h2 : x ≤ p.hi) (hj : L[j]? = some pj) (hj1 : pj.lo ≤ s) (hj2 : s ≤ pj.hi) :
    s + (y + p.hi - x + 1) ≤ pj.hi + 1 + 65536 := by
  have mp := chain_mem hc p (List.mem_of_getElem? hk)
  have mj := chain_mem hc pj (List.mem_of_getElem? hj)
  rcases at_hold hc hA hk h1 h2 hj hj1 hj2 with ⟨_, h3, h4, _, rfl⟩ | ⟨h3, h4, ⟨h5, _⟩ | ⟨h5, _⟩⟩
  · omega
  · omega
  · rcases Nat.lt_trichotomy k j with h | h | h
    · have := chain_disj hc hk hj h; omega
    · subst h; rw [hk] at hj; injection hj with hj; subst hj; omega
    · have := chain_disj hc hj hk h; omega
theorem at_step {L : List Sp} {s x y : Int} {j t k : Nat} {p pj : Sp} (hc : chain 0 L 65536) (hs : 0 ≤ s ∧ s ≤ 65535) (hA : At L s j t x y) (hy : 0 ≤ y ∧ y ≤ 65535) (hk : L[k]? = some p) (h1 : p.lo ≤ x) (h2 : x ≤ p.hi) (hj : L[j]? = some pj) (hj1 : pj.lo ≤ s) (hj2 : s ≤ pj.hi)
    (hn : y + p.hi - x + 1 ≤ 65535) : At L s j (t + 1) ((p.hi + 1) % 65536) (y + p.hi - x + 1) := by
  have mp := chain_mem hc p (List.mem_of_getElem? hk)
  have hkl := (List.getElem?_eq_some_iff.1 hk).1
  by_cases hkm : k + 1 < L.length
  · have hq : L[k + 1]? = some L[k + 1] := List.getElem?_eq_getElem hkm
    have nx := chain_next hc hk hq
    have mq := chain_mem hc _ (List.mem_of_getElem? hq)
    refine .inr ⟨k + 1, L[k + 1], hq, by omega, by omega, ?_⟩
    rcases at_hold hc hA hk h1 h2 hj hj1 hj2 with ⟨h0, h3, h4, h5, rfl⟩ | ⟨h3, h4, ⟨h5, h6⟩ | ⟨h5, h6⟩⟩
    · exact .inl ⟨by omega, by omega⟩
    · exact .inl ⟨by omega, by omega⟩
    · exact .inr ⟨by omega, by omega⟩
  · have hl := chain_last hc hk (by omega)
    have h0 : L[0]? = some L[0] := List.getElem?_eq_getElem (by omega)
    have hf := chain_first hc h0
    refine .inr ⟨0, L[0], h0, by omega, by omega, ?_⟩
    rcases at_hold hc hA hk h1 h2 hj hj1 hj2 with ⟨h0, h3, h4, h5, rfl⟩ | ⟨h3, h4, ⟨h5, h6⟩ | ⟨h5, h6⟩⟩
    · exact .inr ⟨by omega, by omega⟩
    · exact .inr ⟨by omega, by omega⟩
    · omega
/-- A walk that is not over has made at most one step for each span. -/
theorem at_rounds {L : List Sp} {s x y : Int} {j t : Nat} {pj : Sp} (hc : chain 0 L 65536) (hA : At L s j t x y) (hy : y ≤ 65535) (hj : L[j]? = some pj) (hj2 : s ≤ pj.hi) : t ≤ L.length := by
  rcases hA with ⟨h, _⟩ | ⟨k, p, hk, h3, h4, ⟨h5, h6⟩ | ⟨h5, h6⟩⟩
  · omega
  · have := (List.getElem?_eq_some_iff.1 hk).1; omega
  · have : k ≤ j := by
      rcases Nat.lt_trichotomy k j with h | h | h
      · omega
      · omega
      · have := chain_disj hc hj hk h; omega
    omega
/-- At the end every span has been seen once or twice, and twice only the first. -/
theorem vis_end {L : List Sp} {s y : Int} {j : Nat} {pj : Sp} (hc : chain 0 L 65536) (_hs : 0 ≤ s ∧ s ≤ 65535) (hy : 65536 ≤ y) (hj : L[j]? = some pj) (hj1 : pj.lo ≤ s) (_hj2 : s ≤ pj.hi) (hb : s + y ≤ pj.hi + 1 + 65536) (i : Nat) (q : Sp) (hi : L[i]? = some q) :
    1 ≤ vis s y q ∧ vis s y q ≤ 2 ∧ (vis s y q = 2 → q = pj) := by
  have mq := chain_mem hc q (List.mem_of_getElem? hi)
  have mj := chain_mem hc pj (List.mem_of_getElem? hj)
  have hd : (i = j ∧ q = pj) ∨ (q.hi < pj.lo ∨ pj.hi < q.lo) := by
    rcases Nat.lt_trichotomy i j with h | h | h
    · exact .inr (.inl (chain_disj hc hi hj h))
    · subst h
      rw [hi] at hj
      exact .inl ⟨rfl, by injection hj⟩
    · exact .inr (.inr (chain_disj hc hj hi h))
  unfold vis
  refine ⟨?_, ?_, ?_⟩
  · split <;> split <;> omega
  · split <;> split <;> omega
  · intro h
    rcases hd with ⟨_, hd⟩ | hd
    · exact hd
    · exfalso
      split at h <;> split at h <;> omega
theorem sh_inj {L : List Sp} (hn : (L.map Sp.sh).Nodup) {i k : Nat} {p q : Sp} (hi : L[i]? = some q) (hk : L[k]? = some p) (h : q.sh = p.sh) : i = k := by
  have h1 := (List.getElem?_eq_some_iff.1 hi).1
  have h2 := (List.getElem?_eq_some_iff.1 hk).1
  have g1 := (List.getElem?_eq_some_iff.1 hi).2
  have g2 := (List.getElem?_eq_some_iff.1 hk).2
  unfold List.Nodup at hn
  rw [List.pairwise_map] at hn
  have R := List.pairwise_iff_getElem.1 hn
  rcases Nat.lt_trichotomy i k with hl | hl | hl
  · exact absurd (by rw [g1, g2]; exact h) (R i k h1 h2 hl)
  · exact hl
  · exact absurd (by rw [g1, g2]; exact h.symm) (R k i h2 h1 hl)
/-- The row of visits after one step. -/
theorem visits_step {L : List Sp} {F V : List Int} {s x y : Int} {j t k : Nat} {p : Sp} (hG : GoodD L F) (hs : 0 ≤ s ∧ s ≤ 65535) (hA : At L s j t x y) (hy : 0 ≤ y ∧ y ≤ 65535) (hk : L[k]? = some p) (h1 : p.lo ≤ x) (h2 : x ≤ p.hi)
    (hV : ∀ (i : Nat) (q : Sp), L[i]? = some q → V[q.sh.toNat]? = some (vis s y q)) (i : Nat) (q : Sp) (hi : L[i]? = some q) :
    (V.set p.sh.toNat (vis s y p + 1))[q.sh.toNat]? = some (vis s (y + p.hi - x + 1) q) := by
  rw [vis_step hG.1 hs hA hy hk h1 h2 i q hi]
  have sp := hG.2.2.1 p (List.mem_of_getElem? hk)
  have sq := hG.2.2.1 q (List.mem_of_getElem? hi)
  by_cases e : i = k
  · subst e
    rw [hi] at hk
    injection hk with hk
    subst hk
    have hl := (List.getElem?_eq_some_iff.1 (hV i q hi)).1
    rw [if_pos rfl, List.getElem?_set, if_pos rfl, if_pos hl]
  · rw [if_neg e, List.getElem?_set, if_neg (fun h => e (sh_inj hG.2.1 hi hk (by omega))), hV i q hi, Int.add_zero]
end Go.Proofs.Ytaoiekcoiooghaa
