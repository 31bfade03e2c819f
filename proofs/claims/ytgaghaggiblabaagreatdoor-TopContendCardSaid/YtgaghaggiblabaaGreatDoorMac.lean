/- Consumers that go round the shards, in plain numbers. No condition. -/
set_option linter.all false
namespace Go.Proofs.YtgaghaggiblabaaGreatDoor.Ev.Mach
def cnt (p : Nat -> Bool) : Nat -> Nat
 | 0 => 0
 | n + 1 => cnt p n + (if p n then 1 else 0)
theorem cnt_le (p : Nat -> Bool) : ∀ n, cnt p n <= n
 | 0 => Nat.le_refl _
 | n + 1 => by have := cnt_le p n; unfold cnt; split <;> omega
theorem cnt_lt {p : Nat -> Bool} {i : Nat} (h : p i = false) : ∀ {n}, i < n -> cnt p n < n
 | 0, hi => by omega
 | n + 1, hi => by
  unfold cnt
  by_cases e : i = n
  ·subst e; rw [h]; have := cnt_le p i; simp; omega
  ·have := cnt_lt h (n := n) (by omega); split <;> omega
theorem cnt_congr {p q : Nat -> Bool} : ∀ {n}, (∀ i, i < n -> p i = q i) -> cnt p n = cnt q n
 | 0, _ => rfl
 | n + 1, h => by unfold cnt; rw [cnt_congr (n := n) (fun i hi => h i (by omega)), h n (by omega)]
theorem cnt_mono {p q : Nat -> Bool} : ∀ {n}, (∀ i, i < n -> p i = true -> q i = true) -> cnt p n <= cnt q n
 | 0, _ => Nat.le_refl _
 | n + 1, h => by
  have h1 := cnt_mono (n := n) (fun i hi => h i (by omega))
  have h2 := h n (by omega)
  unfold cnt
  cases e : p n with
  | false => simp; omega
  | true => rw [h2 e]; simp; omega
theorem cnt_upd {p q : Nat -> Bool} {i : Nat} (h1 : p i = false) (h2 : q i = true) : ∀ {n}, i < n -> (∀ j, j < n -> j ≠ i -> q j = p j) -> cnt q n = cnt p n + 1
 | 0, hi, _ => by omega
 | n + 1, hi, h => by
  unfold cnt
  by_cases e : i = n
  ·subst e; rw [h1, h2, cnt_congr (n := i) (p := q) (q := p) (fun j hj => h j (by omega) (by omega))]; simp
  ·rw [cnt_upd h1 h2 (n := n) (by omega) (fun j hj he => h j (by omega) he), h n (by omega) (fun e' => e e'.symm)]; omega
def sumN (f : Nat -> Nat) : Nat -> Nat
 | 0 => 0
 | n + 1 => sumN f n + f n
theorem sumN_congr {f g : Nat -> Nat} : ∀ {n}, (∀ i, i < n -> f i = g i) -> sumN f n = sumN g n
 | 0, _ => rfl
 | n + 1, h => by unfold sumN; rw [sumN_congr (n := n) (fun i hi => h i (by omega)), h n (by omega)]
theorem sumN_upd {f g : Nat -> Nat} {i d : Nat} (h1 : g i = f i + d) : ∀ {n}, i < n -> (∀ j, j < n -> j ≠ i -> g j = f j) -> sumN g n = sumN f n + d
 | 0, hi, _ => by omega
 | n + 1, hi, h => by
  unfold sumN
  by_cases e : i = n
  ·subst e; rw [h1, sumN_congr (n := i) (f := g) (g := f) (fun j hj => h j (by omega) (by omega))]; omega
  ·rw [sumN_upd h1 (n := n) (by omega) (fun j hj he => h j (by omega) he), h n (by omega) (fun e' => e e'.symm)]; omega
theorem sumN_le {f g : Nat -> Nat} : ∀ {n}, (∀ i, i < n -> f i <= g i) -> sumN f n <= sumN g n
 | 0, _ => Nat.le_refl _
 | n + 1, h => by unfold sumN; have := sumN_le (n := n) (fun i hi => h i (by omega)); have := h n (by omega); omega
inductive Loc where
 | start (h : Nat)
 | lk (c k : Nat) | m0 (c k : Nat) | m1 (c k : Nat) | ld (c k : Nat) | s0 (c k : Nat) | s1 (c k : Nat) | s2 (c k : Nat)
 | st (c k j : Nat) | u (c k : Nat) (o : Option Nat) | f (c k : Nat) (o : Option Nat) | nx (c k : Nat) | done (c k j : Nat)
def up {α : Type} (g : Nat -> α) (k : Nat) (v : α) : Nat -> α := fun j => if j = k then v else g j
theorem up_eq {α : Type} (g : Nat -> α) (k : Nat) (v : α) : up g k v k = v := by simp [up]
theorem up_ne {α : Type} {g : Nat -> α} {k j : Nat} {v : α} (h : j ≠ k) : up g k v j = g j := by simp [up, h]
structure S where
 loc : Nat -> Loc
 own : Nat -> Nat
 vis : Nat -> Nat
 stg : Nat -> Nat
section
variable (live n : Nat) (m : Nat -> Nat)
def nxt (c : Nat) : Nat := (c + 1) % live
def home (h : Nat) : Nat := if h < live then h else 0
def step (s : S) (i : Nat) : S := match s.loc i with
 | .start h => { s with loc := up s.loc i (.lk (home live h) 0) }
 | .lk c k => if s.own c = 0 then { s with loc := up s.loc i (.m0 c k), own := up s.own c (i + 1) } else s
 | .m0 c k => { s with loc := up s.loc i (.m1 c k) }
 | .m1 c k => { s with loc := up s.loc i (.ld c k), stg := up s.stg c 1 }
 | .ld c k => { s with loc := up s.loc i (.s0 c k) }
 | .s0 c k => { s with loc := up s.loc i (.s1 c k) }
 | .s1 c k => { s with loc := up s.loc i (.s2 c k) }
 | .s2 c k => if s.vis c < m c then { s with loc := up s.loc i (.st c k (s.vis c)) } else { s with loc := up s.loc i (.u c k none) }
 | .st c k j => { s with loc := up s.loc i (.u c k (some j)), stg := up s.stg c 2 }
 | .u c k o => { s with loc := up s.loc i (.f c k o), stg := up s.stg c 0, vis := up s.vis c (s.vis c + 1) }
 | .f c k (some j) => { s with loc := up s.loc i (.done c k j), own := up s.own c 0 }
 | .f c k none => { s with loc := up s.loc i (.nx (nxt live c) (k + 1)), own := up s.own c 0 }
 | .nx c k => { s with loc := up s.loc i (.lk c k) }
 | .done .. => s
def hold : Loc -> Option Nat
 | .m0 c _ => some c | .m1 c _ => some c | .ld c _ => some c | .s0 c _ => some c | .s1 c _ => some c | .s2 c _ => some c | .st c _ _ => some c | .u c _ _ => some c | .f c _ _ => some c
 | _ => none
def stage : Loc -> Nat
 | .ld .. => 1 | .s0 .. => 1 | .s1 .. => 1 | .s2 .. => 1 | .st .. => 1 | .u _ _ none => 1 | .u _ _ (some _) => 2 | _ => 0
def tk : Loc -> Option (Nat × Nat)
 | .f c _ (some j) => some (c, j) | .done c _ j => some (c, j) | _ => none
def dist (c d : Nat) : Nat := (c + live - d) % live
def before (c k d : Nat) : Bool := decide (1 <= dist live c d /\ dist live c d <= k)
def seen (l : Loc) (d : Nat) : Bool := match l with
 | .start _ => false
 | .lk c k => before live c k d | .m0 c k => before live c k d | .m1 c k => before live c k d | .ld c k => before live c k d | .s0 c k => before live c k d | .s1 c k => before live c k d | .s2 c k => before live c k d
 | .st c k _ => before live c k d | .u c k _ => before live c k d | .nx c k => before live c k d
 | .f c k _ => decide (dist live c d <= k) | .done c k _ => decide (dist live c d <= k)
def okl (vis : Nat -> Nat) : Loc -> Prop
 | .start h => h < 3
 | .lk c k => c < live /\ k < live | .m0 c k => c < live /\ k < live | .m1 c k => c < live /\ k < live | .ld c k => c < live /\ k < live
 | .s0 c k => c < live /\ k < live | .s1 c k => c < live /\ k < live | .s2 c k => c < live /\ k < live | .nx c k => c < live /\ k < live
 | .st c k j => c < live /\ k < live /\ j = vis c /\ j < m c
 | .u c k (some j) => c < live /\ k < live /\ j = vis c /\ j < m c
 | .u c k none => c < live /\ k + 1 < live /\ m c <= vis c
 | .f c k (some j) => c < live /\ k < live /\ j < m c /\ j < vis c
 | .f c k none => c < live /\ k + 1 < live /\ m c <= vis c
 | .done c k j => c < live /\ k < live /\ j < m c /\ j < vis c
structure InvB (s : S) : Prop where
 b1 : ∀ i, i < n -> ∀ c, hold (s.loc i) = some c -> s.own c = i + 1 /\ s.stg c = stage (s.loc i)
 b2 : ∀ c, s.own c ≠ 0 -> ∃ i, i < n /\ s.own c = i + 1 /\ hold (s.loc i) = some c
 b3 : ∀ c, s.own c = 0 -> s.stg c = 0
structure InvV (loc : Nat -> Loc) (vis : Nat -> Nat) : Prop where
 a : ∀ i, i < n -> okl live m vis (loc i)
 c1 : ∀ c, c < live -> vis c <= cnt (fun i => seen live (loc i) c) n
 d1 : ∀ i j, i < n -> j < n -> i ≠ j -> ∀ x, tk (loc i) = some x -> tk (loc j) ≠ some x
 d2 : sumN (fun c => min (vis c) (m c)) live = cnt (fun i => (tk (loc i)).isSome) n
 d3 : ∀ i, i < n -> tk (loc i) = none -> ∀ d, d < live -> seen live (loc i) d = true -> m d <= vis d
structure Inv (s : S) : Prop where
 b : InvB n s
 v : InvV live n m s.loc s.vis
end
section
variable {live n : Nat} {m : Nat -> Nat}
theorem up_if {loc : Nat -> Loc} {i : Nat} {l : Loc} (j : Nat) : up loc i l j = if j = i then l else loc j := rfl
theorem InvV.move {loc : Nat -> Loc} {vis : Nat -> Nat} (hi : InvV live n m loc vis) {i : Nat} {l : Loc} (h1 : okl live m vis l) (h4 : ∀ d, d < live -> seen live l d = seen live (loc i) d) (h5 : tk l = tk (loc i)) : InvV live n m (up loc i l) vis := by
 have ht : ∀ j, tk (up loc i l j) = tk (loc j) := by
  intro j; rw [up_if]
  by_cases e : j = i
  ·subst e; rw [if_pos rfl, h5]
  ·rw [if_neg e]
 have hs : ∀ d, d < live -> ∀ j, seen live (up loc i l j) d = seen live (loc j) d := by
  intro d hd j; rw [up_if]
  by_cases e : j = i
  ·subst e; rw [if_pos rfl, h4 d hd]
  ·rw [if_neg e]
 refine ⟨?_, ?_, ?_, ?_, ?_⟩
 ·intro j hj
  rw [up_if]; split
  ·exact h1
  ·exact hi.a j hj
 ·intro c hc
  exact Nat.le_trans (hi.c1 c hc) (Nat.le_of_eq (cnt_congr fun j _ => (hs c hc j).symm))
 ·intro j k hj hk e x hx
  rw [ht] at hx ⊢
  exact hi.d1 j k hj hk e x hx
 ·refine hi.d2.trans (cnt_congr fun j _ => ?_)
  rw [ht]
 ·intro j hj hn d hd hd'
  rw [ht] at hn; rw [hs d hd] at hd'
  exact hi.d3 j hj hn d hd hd'
theorem InvB.move {s : S} (hi : InvB n s) {i : Nat} {l : Loc} (h2 : hold l = hold (s.loc i)) (h3 : stage l = stage (s.loc i)) : InvB n { s with loc := up s.loc i l } := by
 refine ⟨?_, ?_, hi.b3⟩
 ·intro j hj c hc
  replace hc : hold (up s.loc i l j) = some c := hc
  show s.own c = j + 1 /\ s.stg c = stage (up s.loc i l j)
  rw [up_if] at hc ⊢
  by_cases e : j = i
  ·subst e; rw [if_pos rfl] at hc ⊢; rw [h2] at hc; rw [h3]; exact hi.b1 j hj c hc
  ·rw [if_neg e] at hc ⊢; exact hi.b1 j hj c hc
 ·intro c hc
  obtain ⟨j, hj, h6, h7⟩ := hi.b2 c hc
  refine ⟨j, hj, h6, ?_⟩
  show hold (up s.loc i l j) = some c
  rw [up_if]
  by_cases e : j = i
  ·subst e; rw [if_pos rfl, h2]; exact h7
  ·rw [if_neg e]; exact h7
theorem InvB.acq {s : S} (hi : InvB n s) {i c : Nat} (hin : i < n) {l : Loc} (h1 : s.own c = 0) (h2 : hold l = some c) (h3 : stage l = 0) (h4 : hold (s.loc i) = none) : InvB n { s with loc := up s.loc i l, own := up s.own c (i + 1) } := by
 have ho : ∀ d, up s.own c (i + 1) d = if d = c then i + 1 else s.own d := fun _ => rfl
 refine ⟨?_, ?_, ?_⟩
 ·intro j hj d hd
  replace hd : hold (up s.loc i l j) = some d := hd
  show up s.own c (i + 1) d = j + 1 /\ s.stg d = stage (up s.loc i l j)
  rw [up_if] at hd ⊢
  rw [ho]
  by_cases e : j = i
  ·subst e
   rw [if_pos rfl] at hd ⊢
   rw [h2] at hd
   cases hd
   rw [if_pos rfl, h3]
   exact ⟨rfl, hi.b3 c h1⟩
  ·rw [if_neg e] at hd ⊢
   obtain ⟨h5, h6⟩ := hi.b1 j hj d hd
   have : d ≠ c := by rintro rfl; omega
   rw [if_neg this]
   exact ⟨h5, h6⟩
 ·intro d hd
  replace hd : up s.own c (i + 1) d ≠ 0 := hd
  show ∃ j, j < n /\ up s.own c (i + 1) d = j + 1 /\ hold (up s.loc i l j) = some d
  rw [ho] at hd ⊢
  by_cases e : d = c
  ·subst e
   exact ⟨i, hin, by rw [if_pos rfl], by rw [up_eq]; exact h2⟩
  ·rw [if_neg e] at hd ⊢
   obtain ⟨j, hj, h5, h6⟩ := hi.b2 d hd
   refine ⟨j, hj, h5, ?_⟩
   have : j ≠ i := by rintro rfl; rw [h4] at h6; cases h6
   rw [up_ne this]; exact h6
 ·intro d hd
  replace hd : up s.own c (i + 1) d = 0 := hd
  rw [ho] at hd
  by_cases e : d = c
  ·rw [if_pos e] at hd; omega
  ·rw [if_neg e] at hd; exact hi.b3 d hd
theorem InvB.set {s : S} (hi : InvB n s) {i c : Nat} (hin : i < n) {l : Loc} {vis : Nat -> Nat} (h1 : hold (s.loc i) = some c) (h2 : hold l = some c) : InvB n { loc := up s.loc i l, own := s.own, vis := vis, stg := up s.stg c (stage l) } := by
 obtain ⟨h3, h4⟩ := hi.b1 i hin c h1
 refine ⟨?_, ?_, ?_⟩
 ·intro j hj d hd
  replace hd : hold (up s.loc i l j) = some d := hd
  show s.own d = j + 1 /\ up s.stg c (stage l) d = stage (up s.loc i l j)
  rw [up_if] at hd ⊢
  by_cases e : j = i
  ·subst e
   rw [if_pos rfl] at hd ⊢
   rw [h2] at hd
   cases hd
   rw [up_eq]
   exact ⟨h3, rfl⟩
  ·rw [if_neg e] at hd ⊢
   obtain ⟨h5, h6⟩ := hi.b1 j hj d hd
   have : d ≠ c := by rintro rfl; omega
   rw [up_ne this]
   exact ⟨h5, h6⟩
 ·intro d hd
  obtain ⟨j, hj, h5, h6⟩ := hi.b2 d hd
  refine ⟨j, hj, h5, ?_⟩
  show hold (up s.loc i l j) = some d
  rw [up_if]
  by_cases e : j = i
  ·subst e; rw [if_pos rfl, h2]; rw [h1] at h6; exact h6
  ·rw [if_neg e]; exact h6
 ·intro d hd
  have : d ≠ c := by rintro rfl; replace hd : s.own d = 0 := hd; omega
  show up s.stg c (stage l) d = 0
  rw [up_ne this]
  exact hi.b3 d hd
theorem InvB.rel {s : S} (hi : InvB n s) {i c : Nat} (hin : i < n) {l : Loc} (h1 : hold (s.loc i) = some c) (h2 : hold l = none) (h3 : stage (s.loc i) = 0) : InvB n { s with loc := up s.loc i l, own := up s.own c 0 } := by
 obtain ⟨h4, h5⟩ := hi.b1 i hin c h1
 have ho : ∀ d, up s.own c 0 d = if d = c then 0 else s.own d := fun _ => rfl
 refine ⟨?_, ?_, ?_⟩
 ·intro j hj d hd
  replace hd : hold (up s.loc i l j) = some d := hd
  show up s.own c 0 d = j + 1 /\ s.stg d = stage (up s.loc i l j)
  rw [up_if] at hd ⊢
  by_cases e : j = i
  ·subst e
   rw [if_pos rfl, h2] at hd
   cases hd
  ·rw [if_neg e] at hd ⊢
   obtain ⟨h6, h7⟩ := hi.b1 j hj d hd
   have : d ≠ c := by rintro rfl; omega
   rw [up_ne this]
   exact ⟨h6, h7⟩
 ·intro d hd
  replace hd : up s.own c 0 d ≠ 0 := hd
  show ∃ j, j < n /\ up s.own c 0 d = j + 1 /\ hold (up s.loc i l j) = some d
  have e : d ≠ c := by rintro rfl; rw [up_eq] at hd; exact hd rfl
  rw [up_ne e] at hd ⊢
  obtain ⟨j, hj, h6, h7⟩ := hi.b2 d hd
  refine ⟨j, hj, h6, ?_⟩
  have : j ≠ i := by rintro rfl; rw [h1] at h7; cases h7; exact e rfl
  rw [up_ne this]; exact h7
 ·intro d hd
  replace hd : up s.own c 0 d = 0 := hd
  show s.stg d = 0
  by_cases e : d = c
  ·subst e; rw [h5, h3]
  ·rw [up_ne e] at hd; exact hi.b3 d hd
theorem dist_self (c : Nat) (h : 0 < live) : dist live c c = 0 := by unfold dist; rw [show c + live - c = live by omega]; exact Nat.mod_self _
theorem dist_pos {c d : Nat} (hc : c < live) (hd : d < live) (h : d ≠ c) : 1 <= dist live c d := by
 unfold dist
 rcases Nat.lt_or_ge d c with e | e
 ·rw [show c + live - d = (c - d) + live by omega, Nat.add_mod_right, Nat.mod_eq_of_lt (by omega)]; omega
 ·rw [Nat.mod_eq_of_lt (by omega)]; omega
theorem dist_lt {c d : Nat} (h : 0 < live) : dist live c d < live := Nat.mod_lt _ h
theorem nxt_lt {c : Nat} (h : 0 < live) : nxt live c < live := Nat.mod_lt _ h
theorem dist_nxt {c d : Nat} (hc : c < live) (hd : d < live) : dist live (nxt live c) d = if dist live c d + 1 = live then 0 else dist live c d + 1 := by
 unfold dist nxt
 rcases Nat.lt_or_ge (c + 1) live with e | e
 ·rw [Nat.mod_eq_of_lt e]
  rcases Nat.lt_or_ge c d with e1 | e1
  ·rw [Nat.mod_eq_of_lt (show c + live - d < live by omega)]
   rcases Nat.lt_or_ge (c + 1) d with e2 | e2
   ·rw [Nat.mod_eq_of_lt (by omega), if_neg (by omega)]; omega
   ·rw [show c + 1 + live - d = live by omega, Nat.mod_self, if_pos (by omega)]
  ·rw [show c + live - d = (c - d) + live by omega, Nat.add_mod_right, Nat.mod_eq_of_lt (show c - d < live by omega), show c + 1 + live - d = (c + 1 - d) + live by omega, Nat.add_mod_right, Nat.mod_eq_of_lt (show c + 1 - d < live by omega), if_neg (by omega)]; omega
 ·have hl : c + 1 = live := by omega
  rw [hl, Nat.mod_self, show c + live - d = (c - d) + live by omega, Nat.add_mod_right, Nat.mod_eq_of_lt (show c - d < live by omega)]
  by_cases e1 : d = 0
  ·subst e1; rw [show 0 + live - 0 = live by omega, Nat.mod_self, if_pos (by omega)]
  ·rw [Nat.mod_eq_of_lt (by omega), if_neg (by omega)]; omega
theorem InvV.visit {s : S} (hb : InvB n s) (hi : InvV live n m s.loc s.vis) {i c k : Nat} {o : Option Nat} (hin : i < n) (hl : s.loc i = .u c k o) : InvV live n m (up s.loc i (.f c k o)) (up s.vis c (s.vis c + 1)) := by
 have ha := hi.a i hin
 rw [hl] at ha
 have hc : c < live := by cases o <;> exact ha.1
 have hh : hold (s.loc i) = some c := by rw [hl]; rfl
 have hoth : ∀ j, j < n -> j ≠ i -> hold (s.loc j) ≠ some c := by
  intro j hj hne h
  have h1 := (hb.b1 j hj c h).1
  have h2 := (hb.b1 i hin c hh).1
  omega
 have hv : ∀ d, s.vis d <= up s.vis c (s.vis c + 1) d := by
  intro d; by_cases e : d = c
  ·subst e; rw [up_eq]; omega
  ·rw [up_ne e]; exact Nat.le_refl _
 have hve : up s.vis c (s.vis c + 1) c = s.vis c + 1 := up_eq ..
 refine ⟨?_, ?_, ?_, ?_, ?_⟩
 ·intro j hj
  by_cases e : j = i
  ·subst e
   rw [up_eq]
   cases o with
   | none => exact ⟨hc, ha.2.1, by rw [hve]; have := ha.2.2; omega⟩
   | some x => obtain ⟨_, h2, h3, h4⟩ := ha; exact ⟨hc, h2, h4, by rw [hve]; omega⟩
  ·rw [up_ne e]
   have h := hi.a j hj
   have hd := hoth j hj e
   generalize s.loc j = l at h hd
   cases l with
   | st d k' x =>
    have : d ≠ c := by rintro rfl; exact hd rfl
    obtain ⟨h1, h2, h3, h4⟩ := h
    exact ⟨h1, h2, by rw [up_ne this]; exact h3, h4⟩
   | u d k' o' =>
    have : d ≠ c := by rintro rfl; exact hd rfl
    cases o' with
    | none => obtain ⟨h1, h2, h3⟩ := h; exact ⟨h1, h2, by rw [up_ne this]; exact h3⟩
    | some x => obtain ⟨h1, h2, h3, h4⟩ := h; exact ⟨h1, h2, by rw [up_ne this]; exact h3, h4⟩
   | f d k' o' =>
    cases o' with
    | none => obtain ⟨h1, h2, h3⟩ := h; exact ⟨h1, h2, Nat.le_trans h3 (hv d)⟩
    | some x => obtain ⟨h1, h2, h3, h4⟩ := h; exact ⟨h1, h2, h3, Nat.lt_of_lt_of_le h4 (hv d)⟩
   | done d k' x => obtain ⟨h1, h2, h3, h4⟩ := h; exact ⟨h1, h2, h3, Nat.lt_of_lt_of_le h4 (hv d)⟩
   | _ => exact h
 ·intro d hd
  by_cases e : d = c
  ·subst e
   rw [hve, cnt_upd (p := fun j => seen live (s.loc j) d) (q := fun j => seen live (up s.loc i (.f d k o) j) d) (i := i) ?_ ?_ hin ?_]
   ·have := hi.c1 d hd; omega
   ·show seen live (s.loc i) d = false
    rw [hl]
    show decide (1 <= dist live d d /\ dist live d d <= k) = false
    rw [dist_self d (by omega)]; simp
   ·show seen live (up s.loc i (.f d k o) i) d = true
    rw [up_eq]
    show decide (dist live d d <= k) = true
    rw [dist_self d (by omega)]; simp
   ·intro j _ hne
    show seen live (up s.loc i (.f d k o) j) d = seen live (s.loc j) d
    rw [up_ne hne]
  ·rw [up_ne e]
   refine Nat.le_trans (hi.c1 d hd) (Nat.le_of_eq (cnt_congr fun j _ => ?_))
   by_cases e1 : j = i
   ·subst e1
    rw [up_eq, hl]
    show decide (1 <= dist live c d /\ dist live c d <= k) = decide (dist live c d <= k)
    have := dist_pos hc hd e
    simp [this]
   ·rw [up_ne e1]
 ·have key : ∀ j, j < n -> j ≠ i -> ∀ x, tk (.f c k o) = some x -> tk (s.loc j) ≠ some x := by
   intro j hj hne x hx h
   cases o with
   | none => cases hx
   | some y =>
    cases hx
    have h2 := hi.a j hj
    generalize s.loc j = l at h h2
    have hy : y = s.vis c := ha.2.2.1
    cases l with
    | f d k' o' =>
     cases o' with
     | none => cases h
     | some z => cases h; have := h2.2.2.2; omega
    | done d k' z => cases h; have := h2.2.2.2; omega
    | _ => cases h
  intro j j' hj hj' hne x hx
  by_cases e : j = i
  ·subst e
   rw [up_eq] at hx
   rw [up_ne (fun e => hne e.symm)]
   exact key j' hj' (fun e => hne e.symm) x hx
  ·rw [up_ne e] at hx
   by_cases e' : j' = i
   ·subst e'
    rw [up_eq]
    intro h
    exact key j hj e x h hx
   ·rw [up_ne e']
    exact hi.d1 j j' hj hj' hne x hx
 ·cases o with
  | none =>
   have h3 : m c <= s.vis c := ha.2.2
   have e1 : sumN (fun d => min (up s.vis c (s.vis c + 1) d) (m d)) live = sumN (fun d => min (s.vis d) (m d)) live := sumN_congr fun d _ => by
    show min (up s.vis c (s.vis c + 1) d) (m d) = min (s.vis d) (m d)
    by_cases e : d = c
    ·subst e; rw [up_eq]; omega
    ·rw [up_ne e]
   rw [e1, hi.d2]
   refine cnt_congr fun j _ => ?_
   by_cases e : j = i
   ·subst e; rw [up_eq, hl]; rfl
   ·rw [up_ne e]
  | some y =>
   obtain ⟨_, _, h3, h4⟩ := ha
   rw [sumN_upd (f := fun d => min (s.vis d) (m d)) (i := c) (d := 1) ?_ hc ?_, hi.d2, cnt_upd (p := fun j => (tk (s.loc j)).isSome) (q := fun j => (tk (up s.loc i (.f c k (some y)) j)).isSome) (i := i) ?_ ?_ hin ?_]
   ·show (tk (s.loc i)).isSome = false
    rw [hl]; rfl
   ·show (tk (up s.loc i (.f c k (some y)) i)).isSome = true
    rw [up_eq]; rfl
   ·intro j _ hne
    show (tk (up s.loc i (.f c k (some y)) j)).isSome = (tk (s.loc j)).isSome
    rw [up_ne hne]
   ·show min (up s.vis c (s.vis c + 1) c) (m c) = min (s.vis c) (m c) + 1
    rw [up_eq]; omega
   ·intro d _ hne
    show min (up s.vis c (s.vis c + 1) d) (m d) = min (s.vis d) (m d)
    rw [up_ne hne]
 ·intro j hj ht d hd hs
  by_cases e : j = i
  ·subst e
   rw [up_eq] at ht hs
   cases o with
   | some y => cases ht
   | none =>
    by_cases e1 : d = c
    ·subst e1; rw [hve]; have : m d <= s.vis d := ha.2.2; omega
    ·refine Nat.le_trans (hi.d3 j hj (by rw [hl]; rfl) d hd ?_) (hv d)
     rw [hl]
     replace hs : decide (dist live c d <= k) = true := hs
     show decide (1 <= dist live c d /\ dist live c d <= k) = true
     have := dist_pos hc hd e1
     simp at hs ⊢
     exact ⟨this, hs⟩
  ·rw [up_ne e] at ht hs
   exact Nat.le_trans (hi.d3 j hj ht d hd hs) (hv d)
theorem InvV.last (hm : sumN m live = n) {loc : Nat -> Loc} {vis : Nat -> Nat} (hi : InvV live n m loc vis) {i c k : Nat} (hin : i < n) (hl : loc i = .s2 c k) (hv : m c <= vis c) : k + 1 < live := by
 have ha := hi.a i hin
 rw [hl] at ha
 obtain ⟨hc, hk⟩ := ha
 refine Nat.lt_of_le_of_ne hk ?_
 intro e
 have h1 : sumN m live <= sumN (fun d => min (vis d) (m d)) live := sumN_le fun d hd => by
  show m d <= min (vis d) (m d)
  by_cases e1 : d = c
  ·subst e1; omega
  ·have := hi.d3 i hin (by rw [hl]; rfl) d hd (by
    rw [hl]
    show decide (1 <= dist live c d /\ dist live c d <= k) = true
    have h2 := dist_pos hc hd e1
    have h3 : dist live c d < live := dist_lt (by omega)
    simp; omega)
   omega
 have h2 := cnt_lt (p := fun j => (tk (loc j)).isSome) (i := i) (by show (tk (loc i)).isSome = false; rw [hl]; rfl) hin
 have h3 := hi.d2
 omega
theorem InvV.few {loc : Nat -> Loc} {vis : Nat -> Nat} (hi : InvV live n m loc vis) {i c : Nat} (hin : i < n) (hc : c < live) (hs : seen live (loc i) c = false) : vis c < n :=
 Nat.lt_of_le_of_lt (hi.c1 c hc) (cnt_lt (p := fun j => seen live (loc j) c) (i := i) hs hin)
theorem Inv.step (h0 : 0 < live) (hm : sumN m live = n) {s : S} (hi : Inv live n m s) {i : Nat} (hin : i < n) : Inv live n m (step live m s i) := by
 have ha := hi.v.a i hin
 unfold Mach.step
 cases hl : s.loc i with
 | start h =>
  rw [hl] at ha
  refine ⟨hi.b.move (by rw [hl]; rfl) (by rw [hl]; rfl), hi.v.move ⟨?_, h0⟩ ?_ (by rw [hl]; rfl)⟩
  ·unfold home; split <;> omega
  ·intro d _; rw [hl]
   show decide (1 <= dist live _ d /\ dist live _ d <= 0) = false
   simp; omega
 | lk c k =>
  rw [hl] at ha
  show Inv live n m (if s.own c = 0 then _ else s)
  split
  ·rename_i h
   exact ⟨hi.b.acq hin h rfl rfl (by rw [hl]; rfl), hi.v.move ha (fun d _ => by rw [hl]; rfl) (by rw [hl]; rfl)⟩
  ·exact hi
 | m0 c k => rw [hl] at ha; exact ⟨hi.b.move (by rw [hl]; rfl) (by rw [hl]; rfl), hi.v.move ha (fun d _ => by rw [hl]; rfl) (by rw [hl]; rfl)⟩
 | m1 c k => rw [hl] at ha; exact ⟨hi.b.set (l := .ld c k) hin (by rw [hl]; rfl) rfl, hi.v.move ha (fun d _ => by rw [hl]; rfl) (by rw [hl]; rfl)⟩
 | ld c k => rw [hl] at ha; exact ⟨hi.b.move (by rw [hl]; rfl) (by rw [hl]; rfl), hi.v.move ha (fun d _ => by rw [hl]; rfl) (by rw [hl]; rfl)⟩
 | s0 c k => rw [hl] at ha; exact ⟨hi.b.move (by rw [hl]; rfl) (by rw [hl]; rfl), hi.v.move ha (fun d _ => by rw [hl]; rfl) (by rw [hl]; rfl)⟩
 | s1 c k => rw [hl] at ha; exact ⟨hi.b.move (by rw [hl]; rfl) (by rw [hl]; rfl), hi.v.move ha (fun d _ => by rw [hl]; rfl) (by rw [hl]; rfl)⟩
 | s2 c k =>
  rw [hl] at ha
  show Inv live n m (if s.vis c < m c then _ else _)
  split
  ·rename_i h
   exact ⟨hi.b.move (by rw [hl]; rfl) (by rw [hl]; rfl), hi.v.move (l := .st c k (s.vis c)) ⟨ha.1, ha.2, rfl, h⟩ (fun d _ => by rw [hl]; rfl) (by rw [hl]; rfl)⟩
  ·rename_i h
   exact ⟨hi.b.move (by rw [hl]; rfl) (by rw [hl]; rfl), hi.v.move (l := .u c k none) ⟨ha.1, hi.v.last hm hin hl (by omega), by omega⟩ (fun d _ => by rw [hl]; rfl) (by rw [hl]; rfl)⟩
 | st c k j => rw [hl] at ha; exact ⟨hi.b.set (l := .u c k (some j)) hin (by rw [hl]; rfl) rfl, hi.v.move ha (fun d _ => by rw [hl]; rfl) (by rw [hl]; rfl)⟩
 | u c k o => exact ⟨hi.b.set (l := .f c k o) hin (by rw [hl]; rfl) rfl, hi.v.visit hi.b hin hl⟩
 | f c k o =>
  rw [hl] at ha
  cases o with
  | some j => exact ⟨hi.b.rel hin (by rw [hl]; rfl) rfl (by rw [hl]; rfl), hi.v.move ha (fun d _ => by rw [hl]; rfl) (by rw [hl]; rfl)⟩
  | none =>
   refine ⟨hi.b.rel hin (by rw [hl]; rfl) rfl (by rw [hl]; rfl), hi.v.move (l := .nx (nxt live c) (k + 1)) ⟨nxt_lt h0, ha.2.1⟩ (fun d hd => ?_) (by rw [hl]; rfl)⟩
   rw [hl]
   show decide (1 <= dist live (nxt live c) d /\ dist live (nxt live c) d <= k + 1) = decide (dist live c d <= k)
   rw [dist_nxt ha.1 hd]
   have : dist live c d < live := dist_lt h0
   have h2 := ha.2.1
   split <;> simp <;> omega
 | nx c k => rw [hl] at ha; exact ⟨hi.b.move (by rw [hl]; rfl) (by rw [hl]; rfl), hi.v.move ha (fun d _ => by rw [hl]; rfl) (by rw [hl]; rfl)⟩
 | done c k j => exact hi
end
end Go.Proofs.YtgaghaggiblabaaGreatDoor.Ev.Mach
namespace Go.Proofs.YtgaghaggiblabaaGreatDoor.Ev.Mach
def rk (live : Nat) : Loc -> Nat
 | .start _ => 12 * live + 12
 | .lk _ k => 12 * (live - 1 - k) + 11 | .m0 _ k => 12 * (live - 1 - k) + 10 | .m1 _ k => 12 * (live - 1 - k) + 9 | .ld _ k => 12 * (live - 1 - k) + 8 | .s0 _ k => 12 * (live - 1 - k) + 7
 | .s1 _ k => 12 * (live - 1 - k) + 6 | .s2 _ k => 12 * (live - 1 - k) + 5 | .st _ k _ => 12 * (live - 1 - k) + 4 | .u _ k _ => 12 * (live - 1 - k) + 3 | .f _ k _ => 12 * (live - 1 - k) + 2
 | .nx _ k => 12 * (live - 1 - k) + 12 | .done .. => 0
def isDone : Loc -> Bool
 | .done .. => true | _ => false
def spin (s : S) (i : Nat) : Prop := ∃ c k, s.loc i = .lk c k /\ s.own c ≠ 0
def total (live n : Nat) (s : S) : Nat := sumN (fun i => rk live (s.loc i)) n
section
variable {live n : Nat} {m : Nat -> Nat}
theorem rk_le (h : live <= 3) (l : Loc) : rk live l <= 48 := by cases l <;> simp only [rk] <;> omega
theorem step_loc {s : S} {i j : Nat} (h : j ≠ i) : (step live m s i).loc j = s.loc j := by
 unfold step
 cases hl : s.loc i with
 | lk c k => show (if s.own c = 0 then _ else s : S).loc j = _; split <;> first | exact up_ne h | rfl
 | s2 c k => show (if s.vis c < m c then _ else _ : S).loc j = _; split <;> exact up_ne h
 | f c k o => cases o <;> exact up_ne h
 | done c k x => rfl
 | _ => exact up_ne h
theorem step_spin {s : S} {i : Nat} (h : spin s i) : step live m s i = s := by
 obtain ⟨c, k, h1, h2⟩ := h
 unfold step
 rw [h1]
 show (if s.own c = 0 then _ else s) = s
 rw [if_neg h2]
theorem step_rk {s : S} (hi : Inv live n m s) {i : Nat} (hin : i < n) (hd : isDone (s.loc i) = false) (h : ¬ spin s i) : rk live ((step live m s i).loc i) < rk live (s.loc i) := by
 have ha := hi.v.a i hin
 unfold step
 cases hl : s.loc i with
 | start h => rw [hl] at ha; show rk live (up s.loc i _ i) < _; rw [up_eq]; simp only [rk]; omega
 | lk c k =>
  rw [hl] at ha
  show rk live ((if s.own c = 0 then _ else s : S).loc i) < _
  split
  ·show rk live (up s.loc i _ i) < _; rw [up_eq]; simp only [rk]; omega
  ·rename_i h1; exact absurd ⟨c, k, hl, h1⟩ h
 | s2 c k =>
  rw [hl] at ha
  show rk live ((if s.vis c < m c then _ else _ : S).loc i) < _
  split <;> (show rk live (up s.loc i _ i) < _; rw [up_eq]; simp only [rk]; omega)
 | f c k o =>
  rw [hl] at ha
  cases o with
  | some j => show rk live (up s.loc i _ i) < _; rw [up_eq]; simp only [rk]; omega
  | none => show rk live (up s.loc i _ i) < _; rw [up_eq]; simp only [rk]; have := ha.2.1; omega
 | done c k j => rw [hl] at hd; cases hd
 | m0 c k => show rk live (up s.loc i _ i) < _; rw [up_eq]; simp only [rk]; omega
 | m1 c k => show rk live (up s.loc i _ i) < _; rw [up_eq]; simp only [rk]; omega
 | ld c k => show rk live (up s.loc i _ i) < _; rw [up_eq]; simp only [rk]; omega
 | s0 c k => show rk live (up s.loc i _ i) < _; rw [up_eq]; simp only [rk]; omega
 | s1 c k => show rk live (up s.loc i _ i) < _; rw [up_eq]; simp only [rk]; omega
 | st c k j => show rk live (up s.loc i _ i) < _; rw [up_eq]; simp only [rk]; omega
 | u c k o => show rk live (up s.loc i _ i) < _; rw [up_eq]; simp only [rk]; omega
 | nx c k => show rk live (up s.loc i _ i) < _; rw [up_eq]; simp only [rk]; omega
theorem sumN_lt {f g : Nat -> Nat} {i : Nat} (h1 : f i < g i) : ∀ {n}, i < n -> (∀ j, j < n -> f j <= g j) -> sumN f n < sumN g n
 | 0, hi, _ => by omega
 | n + 1, hi, h => by
  unfold sumN
  have h2 := h n (by omega)
  by_cases e : i = n
  ·subst e; have := sumN_le (n := i) (fun j hj => h j (by omega)); omega
  ·have := sumN_lt h1 (n := n) (by omega) (fun j hj => h j (by omega)); omega
theorem total_step {s : S} (hi : Inv live n m s) {i : Nat} (hin : i < n) (hd : isDone (s.loc i) = false) : total live n (step live m s i) <= total live n s /\ (¬ spin s i -> total live n (step live m s i) < total live n s) := by
 by_cases h : spin s i
 ·rw [step_spin h]; exact ⟨Nat.le_refl _, fun h' => absurd h h'⟩
 ·have h1 := step_rk hi hin hd h
  have : total live n (step live m s i) < total live n s := sumN_lt (i := i) h1 hin (fun j _ => by
   show rk live ((step live m s i).loc j) <= rk live (s.loc j)
   by_cases e : j = i
   ·subst e; omega
   ·rw [step_loc e]; exact Nat.le_refl _)
  exact ⟨Nat.le_of_lt this, fun _ => this⟩
theorem some_moves {s : S} (hi : Inv live n m s) {i : Nat} (hin : i < n) (hd : isDone (s.loc i) = false) : ∃ j, j < n /\ isDone (s.loc j) = false /\ ¬ spin s j := by
 by_cases h : spin s i
 ·obtain ⟨c, k, h1, h2⟩ := h
  obtain ⟨j, hj, h3, h4⟩ := hi.b.b2 c h2
  refine ⟨j, hj, ?_, ?_⟩
  ·cases hl : s.loc j <;> first | rfl | (rw [hl] at h4; cases h4)
  ·rintro ⟨c', k', h5, _⟩
   rw [h5] at h4
   cases h4
 ·exact ⟨i, hin, hd, h⟩
theorem step_done {s : S} {i j : Nat} (h : j ≠ i) : isDone ((step live m s i).loc j) = isDone (s.loc j) := by rw [step_loc h]
def steps (live : Nat) (m : Nat -> Nat) : S -> List Nat -> S
 | s, [] => s
 | s, i :: l => steps live m (step live m s i) l
theorem steps_total (h0 : 0 < live) (hm : sumN m live = n) : ∀ {l : List Nat} {s : S}, Inv live n m s -> l.Nodup -> (∀ i, i ∈ l -> i < n /\ isDone (s.loc i) = false) ->
  Inv live n m (steps live m s l) /\ total live n (steps live m s l) <= total live n s /\ ((∃ j, j ∈ l /\ ¬ spin s j) -> total live n (steps live m s l) < total live n s)
 | [], s, hi, _, _ => ⟨hi, Nat.le_refl _, fun ⟨j, hj, _⟩ => by cases hj⟩
 | i :: l, s, hi, hnd, h => by
  obtain ⟨h1, h2⟩ := h i List.mem_cons_self
  have hi' := hi.step h0 hm h1
  obtain ⟨hnm, hnd'⟩ := List.nodup_cons.1 hnd
  obtain ⟨g1, g2, g3⟩ := steps_total h0 hm hi' hnd' (fun j hj => by
   obtain ⟨q1, q2⟩ := h j (List.mem_cons_of_mem _ hj)
   refine ⟨q1, ?_⟩
   rw [step_done (by rintro rfl; exact hnm hj)]; exact q2)
  obtain ⟨t1, t2⟩ := total_step hi h1 h2
  refine ⟨g1, Nat.le_trans g2 t1, ?_⟩
  rintro ⟨j, hj, hs⟩
  by_cases hsp : spin s i
  ·rcases List.mem_cons.1 hj with rfl | hj
   ·exact absurd hsp hs
   ·have e : step live m s i = s := step_spin hsp
    rw [e] at g3
    show total live n (steps live m (step live m s i) l) < _
    rw [e]
    exact g3 ⟨j, hj, hs⟩
  ·exact Nat.lt_of_le_of_lt g2 (t2 hsp)
theorem Inv.fin {s : S} (hi : Inv live n m s) (h : ∀ i, i < n -> isDone (s.loc i) = true) : (∀ i, i < n -> ∃ c k j, s.loc i = .done c k j /\ c < live /\ j < m c) /\ ∀ i i', i < n -> i' < n -> i ≠ i' -> ∀ c k j c' k' j', s.loc i = .done c k j -> s.loc i' = .done c' k' j' -> (c, j) ≠ (c', j') := by
 refine ⟨?_, ?_⟩
 ·intro i hin
  have h1 := h i hin
  have h2 := hi.v.a i hin
  cases hl : s.loc i with
  | done c k j => rw [hl] at h2; exact ⟨c, k, j, rfl, h2.1, h2.2.2.1⟩
  | _ => rw [hl] at h1; cases h1
 ·intro i i' h1 h2 hne c k j c' k' j' e1 e2 e
  exact hi.v.d1 i i' h1 h2 hne (c, j) (by rw [e1]; rfl) (by rw [e2]; show some (c', j') = some (c, j); rw [e])
theorem Inv.start {s : S} (h1 : ∀ i, i < n -> ∃ h, h < 3 /\ s.loc i = .start h) (h2 : ∀ c, s.own c = 0) (h3 : ∀ c, s.vis c = 0) (h4 : ∀ c, s.stg c = 0) : Inv live n m s := by
 have ht : ∀ i, i < n -> tk (s.loc i) = none := by intro i hi; obtain ⟨h, _, e⟩ := h1 i hi; rw [e]; rfl
 refine ⟨⟨?_, ?_, ?_⟩, ⟨?_, ?_, ?_, ?_, ?_⟩⟩
 ·intro i hi c hc; obtain ⟨h, _, e⟩ := h1 i hi; rw [e] at hc; cases hc
 ·intro c hc; exact absurd (h2 c) hc
 ·intro c _; exact h4 c
 ·intro i hi; obtain ⟨h, hh, e⟩ := h1 i hi; rw [e]; exact hh
 ·intro c _; rw [h3 c]; exact Nat.zero_le _
 ·intro i j hi _ _ x hx; rw [ht i hi] at hx; cases hx
 ·rw [sumN_congr (g := fun _ => 0) (fun c _ => by show min (s.vis c) (m c) = 0; rw [h3 c]; omega), cnt_congr (q := fun _ => false) (fun i hi => by show (tk (s.loc i)).isSome = false; rw [ht i hi]; rfl)]
  have a1 : ∀ k, sumN (fun _ => 0) k = 0 := by intro k; induction k with | zero => rfl | succ k ih => unfold sumN; omega
  have a2 : ∀ k, cnt (fun _ => false) k = 0 := by intro k; induction k with | zero => rfl | succ k ih => unfold cnt; simp [ih]
  rw [a1, a2]
 ·intro i hi _ d _ hs; obtain ⟨h, _, e⟩ := h1 i hi; rw [e] at hs; cases hs
end
end Go.Proofs.YtgaghaggiblabaaGreatDoor.Ev.Mach
