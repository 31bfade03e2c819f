/- Functions, maps and regions that draw. No condition. -/
import Derived.Test.YtgaghaggiblabaaGreatDoorEvb
import Derived.Laws.LoneSync
import Derived.Laws.IdiomStrings
import Derived.MapKept
set_option linter.all false
namespace Go.Proofs.YtgaghaggiblabaaGreatDoor.Ev
open Go.RowKit
section
variable {P : PX}
open Classical in
noncomputable def fixK (n0 : Nat) (t : St) : Kap := fun c => if (∃ b els op k, n0 <= b /\ hget b t.H = some (.row els op) /\ t.ρ b = some (c, k)) then (match t.w.heap[c]? with | some (.cells arr _ _) => some arr | _ => none) else t.K c
theorem live_of {t : St} (h : Inv P t) {b c : Nat} {els : List AV} {op : Bool} {k : BL} (hb : hget b t.H = some (.row els op)) (hr : t.ρ b = some (c, k)) :
  t.K c = none /\ ∃ l arr ty fz cs rest, k = .row l els.length arr.size /\ t.w.heap[c]? = some (.cells arr ty fz) /\ arr.toList = cs ++ rest /\ R P t.K t.ρ els (List.replicate els.length l) cs := by
 obtain ⟨c', k', o, h1, h2, h3, h4⟩ := h.hr.blk b _ hb
 rw [hr] at h1
 cases h1
 cases k <;> cases o <;> simp only [BR] at h4
 obtain ⟨e1, e2, e3, cs, rest, e4, e5, e6⟩ := h4
 exact ⟨h2, _, _, _, _, cs, rest, by rw [<- e1, <- e2], h3, e4, e5⟩
theorem fixK_live {n0 : Nat} {t : St} (h : Inv P t) {b c : Nat} {els : List AV} {op : Bool} {k : BL} (hn : n0 <= b) (hb : hget b t.H = some (.row els op)) (hr : t.ρ b = some (c, k)) {arr : Array Value} {ty : TypeId} {fz : Nat × Nat} (hc : t.w.heap[c]? = some (.cells arr ty fz)) :
  fixK n0 t c = some arr := by
 unfold fixK
 rw [if_pos ⟨b, els, op, k, hn, hb, hr⟩, hc]
theorem fixK_cases {n0 : Nat} {t : St} (h : Inv P t) {c : Nat} {arr : Array Value} (hk : fixK n0 t c = some arr) : t.K c = some arr \/ ∃ b els op k ty fz, n0 <= b /\ hget b t.H = some (.row els op) /\ t.ρ b = some (c, k) /\ t.w.heap[c]? = some (.cells arr ty fz) := by
 unfold fixK at hk
 split at hk
 ·rename_i hx
  obtain ⟨b, els, op, k, h1, h2, h3⟩ := hx
  split at hk
  ·rename_i e
   cases hk
   exact .inr ⟨b, els, op, k, _, _, h1, h2, h3, e⟩
  ·cases hk
 ·exact .inl hk
theorem fixK_fz {n0 : Nat} {t : St} (h : Inv P t) : FzK P t.K (fixK n0 t) t.ρ n0 t.H := by
 refine ⟨fun c a e => ?_, fun b els op x hn hb hx => ?_⟩
 ·unfold fixK
  rw [if_neg]
  ·exact e
  ·rintro ⟨b, els, op, k, h1, h2, h3⟩
   rw [(live_of h h2 h3).1] at e
   cases e
 ·obtain ⟨c, k⟩ := x
  obtain ⟨_, l, arr, ty, fz, cs, rest, e1, e2, e3, e4⟩ := live_of h hb hx
  exact ⟨c, l, arr, cs, rest, by rw [e1], fixK_live h hn hb hx e2, e3, e4⟩
theorem BR.both {K1 K2 : Kap} {ρ1 ρ2 : Rho} (hr : Rle ρ1 ρ2) {ab : AB} {k : BL} {o o' : Obj} (h : BR P K1 ρ1 ab k o) (h' : BR P K2 ρ2 ab k o') : BR P K2 ρ1 ab k o' := by
 cases ab <;> cases k <;> cases o <;> simp only [BR] at h <;> cases o' <;> simp only [BR] at h' ⊢
 ·obtain ⟨h1, h2, h3, cs, rest, h4, h5, h6⟩ := h
  obtain ⟨g1, g2, g3, ds, rest', g4, g5, g6⟩ := h'
  exact ⟨g1, g2, g3, ds, rest', g4, h5.both hr g5, g6⟩
 ·obtain ⟨h, _⟩ := h
  obtain ⟨h', hb⟩ := h'
  refine ⟨?_, hb⟩
  clear hb
  generalize Array.toList _ = l at h
  generalize Array.toList _ = l' at h'
  rename_i es _ _ _ _
  induction h generalizing l' with
  | nil => cases h'; exact .nil
  | cons h1 _ ih =>
   cases h' with
   | cons g1 g2 =>
    obtain ⟨⟨k, h2, h3⟩, h4⟩ := h1
    obtain ⟨⟨k', g3, g4⟩, g5⟩ := g1
    exact .cons ⟨⟨k', h2.both hr g3, g4⟩, h4.both hr g5⟩ (ih _ g2)
theorem Ext.weak {wm wm' : Nat} {s t : St} (h : Ext P wm' s t) (hw : wm <= wm') : Ext P wm s t :=
 ⟨h.inv, h.kle, h.rle, h.rlt, h.nle, h.frame, h.size, h.os, h.tape, h.out, fun b hb => h.wmk b (Nat.lt_of_lt_of_le hb hw), h.sub, h.knew, h.rnew⟩
theorem Ext.fixed {wm : Nat} {s t : St} (hi : Inv P s) (h : Ext P s.n s t) : Ext P wm s ⟨fixK s.n t, s.ρ, s.n, s.H, t.w⟩ := by
 have hf := fixK_fz (n0 := s.n) h.inv
 refine ⟨⟨?_, ⟨?_, hi.hr.inj⟩, hi.rdom⟩, fun c a e => hf.le c a (h.kle c a e), fun _ _ e => e, fun _ _ => rfl, Nat.le_refl _, h.frame, h.size, h.os, h.tape, h.out, fun _ _ => rfl, fun _ _ e => e, ?_, fun _ e => .inr e⟩
 ·intro c a e
  rcases fixK_cases h.inv e with e | ⟨b, els, op, k, ty, fz, _, _, _, e⟩
  ·exact h.inv.kok c a e
  ·exact ⟨ty, fz, e⟩
 ·intro b ab e
  have hlt := hi.dom e
  have e' : hget b t.H = some ab := by rw [h.wmk b hlt, e]
  obtain ⟨c, k, o, h1, h2, h3, h4⟩ := hi.hr.blk b ab e
  obtain ⟨c', k', o', g1, g2, g3, g4⟩ := h.inv.hr.blk b ab e'
  rw [h.rlt b hlt, h1] at g1
  cases g1
  refine ⟨c, k, o', h1, ?_, g3, (h4.both h.rle g4).mono hf.le (fun _ _ e => e)⟩
  cases hx : fixK s.n t c with
  | none => exact hx
  | some a =>
   rcases fixK_cases h.inv hx with e1 | ⟨b', els, op, k2, ty, fz, q1, q2, q3, _⟩
   ·rw [g2] at e1; cases e1
   ·have := h.inv.hr.inj b b' _ _ c _ _ e' q2 (by rw [h.rlt b hlt, h1]) q3
    omega
 ·intro c a e
  rcases fixK_cases h.inv e with e | ⟨b, els, op, k, ty, fz, _, q2, q3, _⟩
  ·exact h.knew c a e
  ·exact .inr (h.rnew c ⟨b, _, _, q2, q3⟩)
structure FdOk (P : PX) (f : Nat) (fd : FD) : Prop where
 ok : ∃ fn c, ∃ V : Nat -> Prop, ∃ mr : List G -> List Nat -> Code -> Prop, ∃ md : List D -> List Nat -> Code -> Prop, P.funcs[f]? = some fn /\ fn.body = some c /\ fd.np <= fn.ntmps /\ (∀ i, i < fd.np -> V i) /\ All2 (fun r f => rvm P r f = true) fd.rs fn.results.toList /\ MC mr md fd.code c /\
  ∀ rec, RecOk P rec -> (∀ is outs c', mr is outs c' -> RegW P ⟨fn.ntmps, []⟩ V (fun wm => gs rec wm is) outs c') /\ (∀ is outs c', md is outs c' -> RegW P ⟨fn.ntmps, []⟩ V (fun wm => ds rec wm is []) outs c')
theorem lk_args (as : List AV) : ∀ (i j : Nat), lk i (args as j) = if j <= i then (as[i - j]?).getD .top else .top := by
 induction as with
 | nil => intro i j; simp; rfl
 | cons a as ih =>
  intro i j
  show lk i ((j, a) :: args as (Nat.add j 1)) = _
  rw [lk_cons]
  split
  ·rename_i e
   subst e
   simp
  ·rename_i e
   rw [ih]
   show (if j + 1 <= i then _ else _) = _
   by_cases h : j <= i
   ·rw [if_pos (by omega), if_pos h]
    obtain ⟨m, rfl⟩ : ∃ m, i = j + 1 + m := ⟨i - (j + 1), by omega⟩
    have e1 : j + 1 + m - j = m + 1 := by omega
    have e2 : j + 1 + m - Nat.add j 1 = m := by show j + 1 + m - (j + 1) = m; omega
    rw [e1, e2]
    simp
   ·rw [if_neg (by omega), if_neg h]
theorem All2.at_ {α β : Type} {p : α -> β -> Prop} {as : List α} {bs : List β} (h : All2 p as bs) {i : Nat} {a : α} (hi : as[i]? = some a) : ∃ b, bs[i]? = some b /\ p a b := by
 induction h generalizing i with
 | nil => simp at hi
 | cons h1 _ ih =>
  cases i with
  | zero => simp at hi; subst hi; exact ⟨_, rfl, h1⟩
  | succ i => simp at hi; obtain ⟨b, h2, h3⟩ := ih hi; exact ⟨b, by simpa using h2, h3⟩
theorem TR.start {K : Kap} {ρ : Rho} {as : List AV} {vs : List Value} (hv : All2 (VR P K ρ) as vs) {N : Nat} (hN : as.length <= N) :
  TR P K ρ ⟨N, []⟩ (args as 0) { tmps := vs.toArray ++ Array.replicate (N - vs.toArray.size) undef, defers := [] } := by
 have hl := hv.len
 refine ⟨by simp; omega, rfl, fun i => ?_⟩
 rw [lk_args, if_pos (Nat.zero_le _), Nat.sub_zero]
 cases e : as[i]? with
 | none => exact .mkTop _
 | some a =>
  obtain ⟨v, h1, h2⟩ := hv.at_ e
  have hlt : i < vs.length := (List.getElem?_eq_some_iff.1 h1).1
  simp only [Option.getD_some, Array.getD_eq_getD_getElem?]
  rw [Array.getElem?_append_left (by simpa using hlt)]
  simpa [h1] using h2
theorem fin_ok (hty : TyOk P) {fn : Func} {rs : List Rv} {m : Mode} {N : Fr} {T' : Tm} {a' : Act} {s t : St} {wm : Nat} {r : AV × Nat × Hp} (hi : Inv P s) (hw : wm <= s.n) (q1 : TR P t.K t.ρ N T' a') (h5 : All2 (fun r f => rvm P r f = true) rs fn.results.toList) (q3 : Ext P (Mode.rec s.n s.n wm m) s t) (q4 : fin m rs s.n s.H T' t.n t.H = some r) :
  ∃ v, (results fn a'.tmps).run P t.w = .ok v t.w /\ CallPost P wm s r (.returned v) t.w := by
 obtain ⟨l, v, e1, e2, e3⟩ := results_ok hty q3.inv q1 h5 q4
 refine ⟨v, e3, ?_⟩
 cases hm : m with
 | w =>
  rw [hm] at e1 q3
  cases e1
  exact ⟨v, t, rfl, rfl, e2, q3, rfl, rfl⟩
 | k =>
  rw [hm] at e1 q3
  cases e1
  exact ⟨v, t, rfl, rfl, e2, q3.weak hw, rfl, rfl⟩
 | q =>
  rw [hm] at e1 q3
  have q3' : Ext P s.n s t := q3
  obtain ⟨a2, g1, g2⟩ := fz_VR hty (fixK_fz (n0 := s.n) q3.inv) e2 e1
  cases g1
  refine ⟨v, ⟨fixK s.n t, s.ρ, s.n, s.H, t.w⟩, rfl, rfl, g2.mono (fun _ _ e => e) ?_, Ext.fixed hi q3', rfl, rfl⟩
  intro b x e
  unfold rhz at e
  split at e
  ·rename_i hb
   rw [q3'.rlt b hb.2] at e
   exact e
  ·cases e
theorem body_ok2 (hty : TyOk P) {rec : Rec} {f : Nat} {fd : FD} {fn : Func} {c : Code} {V : Nat -> Prop} {mr : List G -> List Nat -> Code -> Prop} {md : List D -> List Nat -> Code -> Prop} (h1 : P.funcs[f]? = some fn) (h2 : fn.body = some c) (h3 : fd.np <= fn.ntmps) (h4 : ∀ i, i < fd.np -> V i) (h5 : All2 (fun r f => rvm P r f = true) fd.rs fn.results.toList) (h6 : MC mr md fd.code c)
  (h7 : ∀ is outs c', mr is outs c' -> RegW P ⟨fn.ntmps, []⟩ V (fun wm => gs rec wm is) outs c') (h8 : ∀ is outs c', md is outs c' -> RegW P ⟨fn.ntmps, []⟩ V (fun wm => ds rec wm is []) outs c') {as : List AV} {wm : Nat} {s : St} {r : AV × Nat × Hp} {vs : List Value} (h : body rec fd as wm s.n s.H = some r) (hi : Inv P s) (hw : wm <= s.n)
  (hv : All2 (VR P s.K s.ρ) as vs) : Calls P f vs.toArray s.w (CallPost P wm s r) := by
 obtain ⟨h0, h⟩ := brec_some h
 have hlen : as.length <= fd.np := by rw [<- len_eq]; exact Nat.ble_eq ▸ h0
 have hw' : (Mode.rec s.n s.n wm fd.mode : Nat) <= s.n := by cases fd.mode <;> first | exact Nat.le_refl _ | exact hw
 have hend : ∀ T' a' t, TR P t.K t.ρ ⟨fn.ntmps, []⟩ T' a' -> Only V T' -> Ext P (Mode.rec s.n s.n wm fd.mode) s t -> fin fd.mode fd.rs s.n s.H T' t.n t.H = some r ->
   a'.defers = [] /\ ∃ v, (results fn a'.tmps).run P t.w = .ok v t.w /\ CallPost P wm s r (.returned v) t.w := by
  intro T' a' t q1 q2 q3 q4
  refine ⟨q1.df, ?_⟩
  obtain ⟨l, v, e1, e2, e3⟩ := results_ok hty q3.inv q1 h5 q4
  refine ⟨v, e3, ?_⟩
  cases hm : fd.mode with
  | w =>
   rw [hm] at e1 q3
   cases e1
   exact ⟨v, t, rfl, rfl, e2, q3, rfl, rfl⟩
  | k =>
   rw [hm] at e1 q3
   cases e1
   exact ⟨v, t, rfl, rfl, e2, q3.weak hw, rfl, rfl⟩
  | q =>
   rw [hm] at e1 q3
   have q3' : Ext P s.n s t := q3
   obtain ⟨a2, g1, g2⟩ := fz_VR hty (fixK_fz (n0 := s.n) q3.inv) e2 e1
   cases g1
   refine ⟨v, ⟨fixK s.n t, s.ρ, s.n, s.H, t.w⟩, rfl, rfl, g2.mono (fun _ _ e => e) ?_, Ext.fixed hi q3', rfl, rfl⟩
   intro b x e
   unfold rhz at e
   split at e
   ·rename_i hb
    rw [q3'.rlt b hb.2] at e
    exact e
   ·cases e
 refine (callsIn_wide (n := 0)).1 (callsIn_of_wp (F := Fw none) h1 h2 trivial (code_ok (ro := none) h7 h8 h6 hi hw' (TR.start hv (Nat.le_trans hlen h3)) ?_ h ?_ ?_ ?_))
 ·intro i hni
  rw [lk_args, if_pos (Nat.zero_le _), Nat.sub_zero, List.getElem?_eq_none]
  ·rfl
  ·rcases Nat.lt_or_ge i fd.np with e | e
   ·exact absurd (h4 i e) hni
   ·omega
 ·exact hend
 ·intro id T' a' t _ _ _ q; cases q
 ·exact hend
def MemOk (P : PX) (mem : Nat -> List AV -> Option AV) : Prop := ∀ f as r, mem f as = some r -> ∀ (wm : Nat) (s : St) (vs : List Value), Inv P s -> wm <= s.n -> All2 (VR P s.K s.ρ) as vs -> Calls P f vs.toArray s.w (CallPost P wm s (r, s.n, s.H))
theorem fzl_VR (hty : TyOk P) {K : Kap} {ρ : Rho} : ∀ {as : List AV} {vs : List Value} {k : List AV -> Option (List AV)} {r : List AV},
  All2 (VR P K ρ) as vs -> fzl (fz 0 [] 60 true) as k = some r -> ∃ as', k as' = some r /\ All2 (VR P K fun _ => none) as' vs := by
 intro as
 have hf : FzK P K K ρ 0 [] := ⟨fun _ _ e => e, fun _ _ _ _ _ e => by cases e⟩
 have hn : rhz 0 true ρ = fun _ => none := by funext b; simp [rhz]
 induction as with
 | nil => intro vs k r h h'; cases h; exact ⟨[], h', .nil⟩
 | cons a as ih =>
  intro vs k r h h'
  cases h with
  | cons h1 h2 =>
   replace h' : fz 0 [] 60 true a (fun y => fzl (fz 0 [] 60 true) as fun r => k (y :: r)) = some r := h'
   obtain ⟨a', q1, q2⟩ := fz_VR hty hf h1 h'
   rw [hn] at q2
   obtain ⟨as', q3, q4⟩ := ih h2 q1
   exact ⟨a' :: as', q3, .cons q2 q4⟩
theorem mem_ok (hty : TyOk P) {rec : Rec} (hrec : RecOk P rec) {f : Nat} {as : List AV} {r : AV} (h : rec f as 0 0 [] = some (r, 0, [])) (hf : fzl (fz 0 [] 60 true) as some = some as) (wm : Nat) (s : St) (vs : List Value) (hi : Inv P s) (hw : wm <= s.n)
  (hv : All2 (VR P s.K s.ρ) as vs) : Calls P f vs.toArray s.w (CallPost P wm s (r, s.n, s.H)) := by
 obtain ⟨as', h1, h2⟩ := fzl_VR hty hv hf
 cases h1
 have hi' : Inv P ⟨s.K, fun _ => none, 0, [], s.w⟩ := ⟨hi.kok, ⟨fun b ab e => (by cases e), fun b b' x y c k k' e => (by cases e)⟩, fun b x e => (by cases e)⟩
 have hno : ∀ c, ¬ Img (fun _ => none) [] c := by rintro c ⟨b, ab, k, e, _⟩; cases e
 refine (hrec f as 0 ⟨s.K, fun _ => none, 0, [], s.w⟩ (r, 0, []) vs h hi' (Nat.le_refl _) h2).mono ?_
 rintro e w' ⟨v, t, rfl, rfl, q1, q2, q3, q4⟩
 have hρ : t.ρ = fun _ => none := by
  funext b
  cases e : t.ρ b with
  | none => rfl
  | some x => have := q2.inv.rdom b x e; rw [q3] at this; cases this
 rw [hρ] at q1
 have hkn : ∀ c a, t.K c = some a -> s.K c = some a \/ s.w.heap.size <= c := by
  intro c a e
  rcases q2.knew c a e with e | e | e
  ·exact .inl e
  ·exact .inr e
  ·exact absurd e (hno c)
 refine ⟨v, ⟨t.K, s.ρ, s.n, s.H, t.w⟩, rfl, rfl, q1.mono (fun _ _ e => e) (fun _ _ e => by cases e), ?_, rfl, rfl⟩
 refine ⟨⟨q2.inv.kok, ⟨?_, hi.hr.inj⟩, hi.rdom⟩, q2.kle, fun _ _ e => e, fun _ _ => rfl, Nat.le_refl _, fun c hc _ => q2.frame c hc (hno c), q2.size, q2.os, q2.tape, q2.out, fun _ _ => rfl, fun _ _ e => e, ?_, fun _ e => .inr e⟩
 ·intro b ab e
  obtain ⟨c, k, o, h1, h2, h3, h4⟩ := hi.hr.blk b ab e
  have hlt : c < s.w.heap.size := (Array.getElem?_eq_some_iff.1 h3).1
  refine ⟨c, k, o, h1, ?_, (q2.frame c hlt (hno c)).trans h3, h4.mono q2.kle (fun _ _ e => e)⟩
  cases hx : t.K c with
  | none => rfl
  | some a =>
   rcases hkn c a hx with e1 | e1
   ·rw [h2] at e1; cases e1
   ·omega
 ·intro c a e
  rcases hkn c a e with e1 | e1
  ·exact .inl e1
  ·exact .inr (.inl e1)
end
end Go.Proofs.YtgaghaggiblabaaGreatDoor.Ev
namespace Go.Proofs.YtgaghaggiblabaaGreatDoor.Ev
open Go.RowKit
section
variable {P : PX} {o : Oper} {a : Act} {s : St} {wm : Nat} {Kt : Kv} {r : AV × Nat × Hp}
theorem shift_int {T : Tm} {x y : O} {α : Type} {f : IntKind -> Int -> Nat -> Option α} {r : α}
  (h : (match ev T x with | .int k a => (match ev T y with | .int _ b => (match b with | .ofNat m => (Bool.rec none (f k a m) (Nat.ble m (IntKind.bits k)) : Option α) | _ => none) | _ => none) | _ => none) = some r) :
  ∃ k a j m, ev T x = .int k a /\ ev T y = .int j (m : Nat) /\ m <= k.bits /\ f k a m = some r := by
 split at h
 ·rename_i k m hx
  split at h
  ·rename_i k' n hy
   split at h
   ·obtain ⟨h1, h2⟩ := brec_some h
    exact ⟨k, m, k', _, hx, hy, Nat.le_of_ble_eq_true h1, h2⟩
   ·cases h
  ·cases h
 ·cases h
section
variable (hi : Inv P s) {N : Fr} {T : Tm} (ht : TR P s.K s.ρ N T a) {rec : Rec} {x y : O} {x' y' : Operand} {t u : TypeId} (h1 : om x x' = true) (h2 : om y y' = true)
include hi ht h1 h2
theorem eIshl_ok (ho : o.op = .binOp .shl t x' y' u) (h : eIshl x y rec T wm s.n s.H Kt = some r) : OpW P o a s wm Kt r := by
 obtain ⟨k, m, j, n, hx, hy, hle, h⟩ := shift_int h
 have e1 := om_ok h1 ht
 have e2 := om_ok h2 ht
 rw [hx] at e1
 rw [hy] at e2
 refine .pure hi (v := .int k (k.wrap (m * 2 ^ n))) ?_ ?_ h
 ·simp [execOp, ho, eqGuard, binOp, e1.int, e2.int, Op.shift, Nat.min_eq_left hle, show ¬ ((n : Int) < 0) by omega]
 ·rw [wrap_eq]
  have : Int.mul m (.ofNat (Nat.pow 2 n)) = m * 2 ^ n := by
   show m * ((2 ^ n : Nat) : Int) = _
   rw [Int.natCast_pow]; rfl
  rw [this]
  exact .mkInt _ _
theorem eIshr_ok (ho : o.op = .binOp .shr t x' y' u) (h : eIshr x y rec T wm s.n s.H Kt = some r) : OpW P o a s wm Kt r := by
 obtain ⟨k, m, j, n, hx, hy, hle, h⟩ := shift_int h
 have e1 := om_ok h1 ht
 have e2 := om_ok h2 ht
 rw [hx] at e1
 rw [hy] at e2
 refine .pure hi (v := .int k (m.fdiv (2 ^ n))) ?_ ?_ h
 ·simp [execOp, ho, eqGuard, binOp, e1.int, e2.int, Op.shift, Nat.min_eq_left hle, show ¬ ((n : Int) < 0) by omega]
 ·have : Int.fdiv m (.ofNat (Nat.pow 2 n)) = m.fdiv (2 ^ n) := by
   show m.fdiv ((2 ^ n : Nat) : Int) = _
   rw [Int.natCast_pow]; rfl
  rw [this]
  exact .mkInt _ _
end
def apk (P : PX) (e : Nat) (sT xT : TypeId) : Bool := match P.underlying sT with
 | some (.slice el) => (match P.underlying xT with | some (.int _) => false | some _ => true | none => false) && elk P el && Nat.beq e (lcode (lay P el))
 | _ => false
theorem apk_ok {e : Nat} {sT xT : TypeId} (h : apk P e sT xT = true) : ∃ el, ApOk P sT xT el /\ e = lcode (lay P el) := by
 unfold apk at h
 split at h
 ·rename_i el hs
  simp only [Bool.and_eq_true] at h
  obtain ⟨⟨h1, h2⟩, h3⟩ := h
  refine ⟨el, ⟨hs, ?_, h2⟩, beq_true.1 h3⟩
  split at h1
  ·cases h1
  ·rename_i dx hne e
   exact ⟨dx, e, fun k hk => hne k hk⟩
  ·cases h1
 ·cases h
theorem eAp_ok (hty : TyOk P) (hi : Inv P s) (hw : wm <= s.n) {N : Fr} {T : Tm} (ht : TR P s.K s.ρ N T a) {rec : Rec} {e : Nat} {x y : O} {x' y' : Operand} {sT xT : TypeId} (ho : o.op = .call { callee := .builtin .append, args := #[x', y'], argTypes := #[sT, xT] }) (h1 : om x x' = true) (h2 : om y y' = true)
  (hq : apk P e sT xT = true) (h : eAp e x y rec T wm s.n s.H Kt = some r) : OpW P o a s wm Kt r := by
 obtain ⟨el, hT, rfl⟩ := apk_ok hq
 obtain ⟨xs, hs, hk⟩ := els_ok hty hi (om_ok h2 ht) h
 obtain ⟨res, av, t, q1, q2, q3, q4⟩ := apnd_ok hty hi hw hT (ty := o.type) (om_ok h1 ht) hs hk
 refine .value (v := res) ?_ q2 q3 q4
 simp [execOp, ho, resolve, invoke, builtin, q1]
theorem put_row (hty : TyOk P) (hi : Inv P s) {b c m tot o' : Nat} {l : Lay} {e xs : List AV} {q : Bool} {ds : List Value} (hw : wm <= b) (hb : hget b s.H = some (.row e q)) (hc : s.ρ b = some (c, .row l m tot)) (hx : R P s.K s.ρ xs (List.replicate xs.length l) ds) (hle : o' + xs.length <= m) :
  ∃ w', (storeCells ⟨c, o' * szl P l, none⟩ ds).run P s.w = .ok () w' /\ Ext P wm s ⟨s.K, s.ρ, s.n, hset b (.row (e.take o' ++ (xs ++ e.drop (o' + xs.length))) q) s.H, w'⟩ := by
 obtain ⟨c', kk, oo, f1, f2, f3, f4⟩ := hi.hr.blk _ _ hb
 rw [hc] at f1
 cases f1
 cases oo <;> simp only [BR] at f4
 rename_i arr et fz
 obtain ⟨e1, e2, e3, cs, rest, e4, e5, e6⟩ := f4
 subst e3
 have hds := hx.size hty
 have hcs := e5.size hty
 rw [szs_replicate] at hds hcs
 have hal : arr.toList.length = cs.length + rest.length := by rw [e4]; simp
 have has : arr.size = arr.toList.length := by simp
 have hle' : o' * szl P l + ds.length <= cs.length := by
  rw [hds, hcs, <- Nat.add_mul]
  exact Nat.mul_le_mul_right _ (by omega)
 have hst := run_storeCells_in (P := P) hx.one f3 (off := o' * szl P l) (by omega)
 refine ⟨_, hst, ?_⟩
 have hlen : (e.take o' ++ (xs ++ e.drop (o' + xs.length))).length = e.length := by simp; omega
 refine Ext.store hi hb hw hc (setRow_heap _ _ _ _ _ _ f3) ?_ (fun dd hd => setRow_other _ _ _ _ hd) (setRow_size _ _ _) rfl rfl rfl
 refine ⟨by rw [hlen]; exact e1, ?_, rfl, _, rest, ?_, by rw [hlen]; exact e5.splice hty hx (i := o') (by omega), e6⟩
 ·simp
  omega
 ·rw [e4, List.take_append_of_le_length (by omega), List.drop_append_of_le_length (by omega)]
  simp
theorem cpr_eq {α : Type} {o' m : Nat} {xs e : List AV} {q : Bool} {k : AB -> Option α} (hm : m <= xs.length) : cpr o' m xs (.row e q) k = k (.row (e.take o' ++ (xs.take m ++ e.drop (o' + (xs.take m).length))) q) := by
 show k (.row (app (take e o') (app (take xs m) (drop e (Nat.add o' m)))) q) = _
 rw [app_eq, app_eq, take_eq, take_eq, drop_eq, List.length_take, Nat.min_eq_left hm]
 rfl
def cok' (P : PX) (e : Nat) (sT : TypeId) : Bool := match P.underlying sT with | some (.slice el) => elk P el && Nat.beq e (lcode (lay P el)) | _ => false
theorem eCo_ok (hty : TyOk P) (hi : Inv P s) {N : Fr} {T : Tm} (ht : TR P s.K s.ρ N T a) {rec : Rec} {e : Nat} {x y : O} {x' y' : Operand} {dT sT : TypeId} (ho : o.op = .call { callee := .builtin .copy, args := #[x', y'], argTypes := #[dT, sT] }) (h1 : om x x' = true) (h2 : om y y' = true)
  (hq : cok' P e dT = true) (h : eCo e x y rec T wm s.n s.H Kt = some r) : OpW P o a s wm Kt r := by
 unfold cok' at hq
 split at hq <;> first | (cases hq; done) | skip
 rename_i el hu
 rw [Bool.and_eq_true] at hq
 obtain ⟨hq, he⟩ := hq
 have := beq_true.1 he
 subst this
 obtain ⟨i, d, z, e1, e2, e3, e4, e5, e6, etn⟩ := elk_ok hq
 obtain ⟨xs, hs, hk⟩ := els_ok hty hi (om_ok h2 ht) h
 have hv := om_ok h1 ht
 clear h
 generalize ev T x = av at hk hv
 cases av <;> first | (cases hk; done) | skip
 rename_i b off n cap op u
 obtain ⟨c, l', m', tot, ccap, g1, g2, g3, g4, g5, g6, hlc, hval⟩ := hv.sr_inv
 obtain ⟨hcond, hk⟩ := brec_some hk
 obtain ⟨hc1, hc2⟩ := and3 hcond
 obtain ⟨hc2, hc3⟩ := and3 hc2
 have hw : wm <= b := Nat.le_of_ble_eq_true hc1
 have hu2 := beq_true.1 hc2
 rw [<- hlc] at hu2
 have hl := lcode_inj hu2
 subst hl
 obtain ⟨ab, hb, hk⟩ := hk_some hk
 cases ab <;> first | (cases hk; done) | skip
 rename_i els q
 rw [min'_eq, len_eq] at hk
 rw [cpr_eq (Nat.min_le_left _ _)] at hk
 obtain ⟨ds, p1, p2⟩ := hs.first hty etn e2 hc3 (m := min xs.length n) (Nat.min_le_left _ _)
 have hlen : (xs.take (min xs.length n)).length = min xs.length n := by simp
 obtain ⟨w', r1, r2⟩ := put_row hty hi hw hb g1 (o' := off) p2 (by rw [hlen]; omega)
 have hsz := szl_lay hty etn e2
 refine .value (t := ⟨s.K, s.ρ, s.n, _, w'⟩) (v := goInt ((min xs.length n : Nat) : Int)) ?_ (.mkInt _ _) r2 hk
 have hlo := hs.len
 have hi' : i.size = P.cellsOf el := e6
 have p1' := p1 _ rfl
 have hmin : Nat.min xs.length n = min xs.length n := rfl
 simp only [execOp, ho, resolve, invoke, builtin, Sem.run_bind, Sem.run_pure, Result.andThen_ok, Deferred.ofValue]
 simp [Builtin.copy_, run_underlying hu, hval, hlo, sizeOf, typeInfo, e1, hi', hmin, p1', r1]
theorem nthN_eq {α : Type} (l : List Nat) (i : Nat) (k : Nat -> Option α) : nthN l i k = l[i]?.bind k := by
 induction l generalizing i with
 | nil => rfl
 | cons a l ih =>
  show (Bool.rec (nthN l (Nat.sub i 1) k) (k a) (Nat.beq i 0) : Option α) = _
  rw [brec_beq]
  cases i with
  | zero => simp
  | succ i => rw [if_neg (by omega), ih]; simp
def ixk (P : PX) (t' : Nat) (t : TypeId) : Bool := match P.underlying t with
 | some .string => Nat.beq t' 0
 | some (.array n e) => Nat.beq t' (t + 1) && ((P.underlying e).isSome && tin P e) && (match P.info? e with | some i => Nat.beq i.size (szl P (lay P e)) | none => false)
 | _ => false
theorem eIx_ok (hty : TyOk P) (hi : Inv P s) {N : Fr} {T : Tm} (ht : TR P s.K s.ρ N T a) {rec : Rec} {t' : Nat} {x y : O} {x' y' : Operand} {t : TypeId} (ho : o.op = .index t x' y') (h1 : om x x' = true) (h2 : om y y' = true) (hq : ixk P t' t = true)
  (h : eIx t' x y rec T wm s.n s.H Kt = some r) : OpW P o a s wm Kt r := by
 have hv := om_ok h1 ht
 have hj := om_ok h2 ht
 unfold eIx at h
 generalize ev T y = jv at h hj
 cases jv <;> first | (cases h; done) | skip
 rename_i jk n
 cases n <;> first | (cases h; done) | skip
 rename_i j
 generalize ev T x = av at h hv
 have hjv := hj.int
 unfold ixk at hq
 cases av <;> first | (cases h; done) | skip
 ·rename_i st
  replace h : (Bool.rec none (nthN st j fun a => Kt (.int .u8 (.ofNat a)) s.n s.H) (Nat.beq t' 0) : Out) = some r := h
  have h' := brec_some h
  clear h
  obtain ⟨h0, h⟩ := h'
  have := beq_true.1 h0
  subst this
  rw [nthN_eq] at h
  obtain ⟨l, c, hR, he⟩ := hv.known (by simp) (by simp)
  split at hq <;> first | (simp at hq; done) | skip
  rename_i hu
  cases hR with
  | str g =>
   rename_i b vs
   cases g
   cases hn : (strOf b)[j]? with
   | none => rw [hn] at h; cases h
   | some m =>
    rw [hn] at h
    have hb : ∃ u : UInt8, b[j]? = some u /\ u.toNat = m := by
     unfold strOf at hn
     rw [List.getElem?_map] at hn
     cases hx : b.toList[j]? with
     | none => rw [hx] at hn; cases hn
     | some u =>
      rw [hx] at hn
      cases hn
      refine ⟨u, ?_, rfl⟩
      rw [ByteArray.toList_eq] at hx
      have hlt : j < b.size := by
       have := (List.getElem?_eq_some_iff.1 hx).1
       simpa using this
      rw [getElem?_pos b j hlt]
      rw [<- hx]
      simp [ByteArray.getElem_eq_getElem_data, List.getElem?_eq_getElem, hlt]
    obtain ⟨u, hb, hm⟩ := hb
    refine .pure hi (v := .int .u8 (u.toNat : Int)) ?_ (by rw [hm]; exact .mkInt _ _) h
    rw [<- hm] at hn
    simp [execOp, ho, hjv, he, pk, Instr.index, asIntOf, run_underlying hu, hb]
 ·rename_i u fs
  replace h : (Bool.rec none (nth fs j fun y => Kt y s.n s.H) (Nat.beq t' (Nat.add u 1)) : Out) = some r := h
  have h' := brec_some h
  clear h
  obtain ⟨h0, h⟩ := h'
  have h0 := beq_true.1 h0
  obtain ⟨z, hz, h⟩ := nth_some h
  obtain ⟨l, c, hR, he⟩ := hv.known (by simp) (by simp)
  split at hq <;> first | (simp at hq; done) | skip
  ·have := beq_true.1 hq
   have : Nat.add u 1 = 0 := by rw [<- h0, this]
   cases this
  ·rename_i n e hu
   simp only [Bool.and_eq_true] at hq
   obtain ⟨⟨g1, g2⟩, g3⟩ := hq
   have g1 := beq_true.1 g1
   obtain ⟨g2, hte⟩ := g2
   obtain ⟨d, hd⟩ := Option.isSome_iff_exists.1 g2
   have hut : u = t := by
    have : u + 1 = t + 1 := by rw [<- g1, h0]
    omega
   subst hut
   cases hi' : P.info? e with
   | none => rw [hi'] at g3; cases g3
   | some i =>
    rw [hi'] at g3
    have g3 := beq_true.1 g3
    cases hR with
    | agg q1 q2 q3 =>
     rename_i ts cs vs
     cases q3
     have hts : ts = List.replicate n (lay P e) := by
      rw [comps_eq (comps_tin q1), hu] at q1
      exact (Option.some.inj q1).symm
     subst hts
     obtain ⟨l, p1, p2, p3⟩ := q2.get hty hz
     rw [List.getElem?_replicate] at p1
     split at p1 <;> first | (cases p1; done) | skip
     rename_i hjn
     cases p1
     have hoff : szs P ((List.replicate n (lay P e)).take j) = j * szl P (lay P e) := by
      rw [List.take_replicate, Nat.min_eq_left (by omega), szs_replicate]
     rw [hoff] at p2 p3
     have := run_part hty hte hd p2 p3 s.w
     refine .pure hi ?_ (VR.of p2) h
     have hlt : (j : Int) < (n : Int) := by omega
     simp [execOp, ho, hjv, he, pk, Instr.index, asIntOf, run_underlying hu, sizeOf, typeInfo, hi', g3, hjn, this]
theorem eCl_ok (hty : TyOk P) (hi : Inv P s) {N : Fr} {T : Tm} (ht : TR P s.K s.ρ N T a) {rec : Rec} {z : AV} {x : O} {x' : Operand} {t : TypeId} (ho : o.op = .call { callee := .builtin .clear, args := #[x'], argTypes := #[t] }) (hm : om x x' = true) (hz : rwk P z t = true)
  (h : eCl z x rec T wm s.n s.H Kt = some r) : OpW P o a s wm Kt r := by
 obtain ⟨el, i, v, c, d, hu, e1, e2, e3, e4, hd, e5, e6, e7, etn⟩ := rwk_ok hty hz
 have hv := om_ok hm ht
 unfold eCl at h
 generalize ev T x = av at h hv
 cases av <;> first | (cases h; done) | skip
 ·obtain ⟨l, c, hR, he⟩ := hv.known (by simp) (by simp)
  cases hR
  refine .pure hi (v := .tuple #[]) ?_ (.mkTop _) h
  simp [execOp, ho, resolve, invoke, builtin, Builtin.clear_, run_underlying hu, he, pk]
 ·rename_i b off n cap op u
  obtain ⟨c', l', m', tot, ccap, g1, g2, g3, g4, g5, g6, hlc, hval⟩ := hv.sr_inv
  obtain ⟨hcond, hk⟩ := brec_some h
  obtain ⟨hc1, hc2⟩ := and3 hcond
  have hw : wm <= b := Nat.le_of_ble_eq_true hc1
  have hu2 := beq_true.1 hc2
  rw [lc_eq (e4 s.K s.ρ), <- hlc] at hu2
  have hl := lcode_inj hu2
  subst hl
  obtain ⟨ab, hb, hk⟩ := hk_some hk
  cases ab <;> first | (cases hk; done) | skip
  rename_i els q
  rw [fill_eq] at hk
  rw [cpr_eq (by simp)] at hk
  have hx : (List.replicate n z).take n = List.replicate n z := by rw [List.take_replicate, Nat.min_self]
  rw [hx] at hk
  have hR := R_replicate (e4 s.K s.ρ) n
  have hlen : (List.replicate n z).length = n := by simp
  obtain ⟨w', r1, r2⟩ := put_row hty hi hw hb g1 (o' := off) (xs := List.replicate n z) (ds := (List.replicate n c).flatten) (by rw [hlen]; exact hR) (by rw [hlen]; omega)
  refine .value (t := ⟨s.K, s.ρ, s.n, _, w'⟩) (v := .tuple #[]) ?_ (.mkTop _) r2 hk
  have hsz := szl_lay hty etn hd
  have hcz : v.cells.size = P.cellsOf el := by rw [<- e7, <- e3]; simp
  have hrow : (Builtin.zeroCells v.cells n).toList = (List.replicate n c).flatten := by
   by_cases h0 : n * v.cells.size = 0
   ·have hcs := hR.size hty
    rw [szs_replicate, hsz, <- hcz, h0] at hcs
    rw [List.length_eq_zero_iff.1 hcs]
    unfold Builtin.zeroCells
    rw [h0]
    simp
   ·unfold Builtin.zeroCells
    rw [zero_row v.cells n h0, e3]
  cases n with
  | zero =>
   have hw' : w' = s.w := by
    simp [storeCells] at r1
    exact r1.symm
   simp [execOp, ho, resolve, invoke, builtin, Builtin.clear_, run_underlying hu, hval, hw']
  | succ n =>
   have hne : n + 1 ≠ 0 := by omega
   simp only [execOp, ho, resolve, invoke, builtin, Sem.run_bind, Sem.run_pure, Result.andThen_ok]
   simp [Builtin.clear_, run_underlying hu, hval, run_zeroValue e1 e2, hrow, r1]
end
end Go.Proofs.YtgaghaggiblabaaGreatDoor.Ev
namespace Go.Proofs.YtgaghaggiblabaaGreatDoor.Ev
def uO (x : O) : List Nat := match x with | .t i => [i] | .c _ => []
def uOs (xs : List O) : List Nat := xs.flatMap uO
def uPs (xs : List (Nat × O)) : List Nat := xs.flatMap fun p => uO p.2
def uOo (x : Option O) : List Nat := match x with | some x => uO x | none => []
def uI (i : I) : List Nat := match i with
 | .mv x => uO x
 | .pk c a b => uO c ++ uO a ++ uO b
 | .al _ => []
 | .bx x => uO x
 | .ld x => uO x
 | .la _ x => uO x
 | .st x v => uO x ++ uO v
 | .sa _ x v => uO x ++ uO v
 | .nc x => uO x
 | .iadd x y => uO x ++ uO y
 | .isub x y => uO x ++ uO y
 | .imul x y => uO x ++ uO y
 | .iquo x y => uO x ++ uO y
 | .irem x y => uO x ++ uO y
 | .iand x y => uO x ++ uO y
 | .ior x y => uO x ++ uO y
 | .ixor x y => uO x ++ uO y
 | .ishl x y => uO x ++ uO y
 | .ishr x y => uO x ++ uO y
 | .ilss x y => uO x ++ uO y
 | .ileq x y => uO x ++ uO y
 | .igtr x y => uO x ++ uO y
 | .igeq x y => uO x ++ uO y
 | .eq _ x y => uO x ++ uO y
 | .ne _ x y => uO x ++ uO y
 | .nt x => uO x
 | .cv _ x => uO x
 | .fa _ x _ _ => uO x
 | .fd _ x _ => uO x
 | .ia _ _ _ x i => uO x ++ uO i
 | .ix _ x i => uO x ++ uO i
 | .ex x _ => uO x
 | .bl _ ps => uPs ps
 | .bs _ _ ps => uPs ps
 | .ms _ x => uO x
 | .mm  => []
 | .mu _ m k v => uO m ++ uO k ++ uO v
 | .lu _ _ m k _ => uO m ++ uO k
 | .rg m => uO m
 | .nx x => uO x
 | .en x => uO x
 | .mf _ fi ca => uOs fi ++ uOs ca
 | .sl _ _ x lo hi mx => uO x ++ uOo lo ++ uOo hi ++ uOo mx
 | .ln _ x => uO x
 | .cp x => uO x
 | .mi x y => uO x ++ uO y
 | .ma x y => uO x ++ uO y
 | .ap _ s x => uO s ++ uO x
 | .az _ s x => uO s ++ uO x
 | .co _ d s => uO d ++ uO s
 | .cl _ s => uO s
 | .ca _ as => uOs as
 | .cd f as => uO f ++ uOs as
 | .bb x => uO x
 | .cs x o v => uO x ++ uO o ++ uO v
 | .lx x => uO x
 | .sx x v => uO x ++ uO v
 | .no  => []
section
variable {T T' : Tm}
theorem ev_congr {x : O} (h : ∀ d, d ∈ uO x -> lk d T = lk d T') : ev T x = ev T' x := by
 cases x with
 | t i => exact h i (by simp [uO])
 | c v => rfl
theorem evs_congr {xs : List O} (h : ∀ d, d ∈ uOs xs -> lk d T = lk d T') : evs T xs = evs T' xs := by
 induction xs with
 | nil => rfl
 | cons x xs ih =>
  show ev T x :: evs T xs = ev T' x :: evs T' xs
  rw [ev_congr (fun d hd => h d (by simp [uOs, hd])), ih (fun d hd => h d (by simp only [uOs, List.flatMap_cons, List.mem_append]; exact .inr hd))]
theorem build_congr {ps : List (Nat × O)} (h : ∀ d, d ∈ uPs ps -> lk d T = lk d T') {α : Type} : ∀ (fs : List AV) (k : List AV -> Option α), build T ps fs k = build T' ps fs k := by
 induction ps with
 | nil => intro fs k; rfl
 | cons p ps ih =>
  intro fs k
  have e : ev T p.2 = ev T' p.2 := ev_congr (fun d hd => h d (by simp [uPs, hd]))
  have ih := ih (fun d hd => h d (by simp only [uPs, List.flatMap_cons, List.mem_append]; exact .inr hd))
  show nth fs p.1 (fun a => Bool.rec none (build T ps (lset fs p.1 (ev T p.2)) k) (like a (ev T p.2))) = nth fs p.1 (fun a => Bool.rec none (build T' ps (lset fs p.1 (ev T' p.2)) k) (like a (ev T' p.2)))
  rw [e, ih]
theorem opt_congr {x : Option O} (h : ∀ d, d ∈ uOo x -> lk d T = lk d T') : opt T x = opt T' x := by
 cases x with
 | none => rfl
 | some x => show bdv (ev T x) = bdv (ev T' x); rw [ev_congr h]
theorem evI_congr {rec : Rec} {wm n : Nat} {H : Hp} {K : Kv} {i : I} (h : ∀ d, d ∈ uI i -> lk d T = lk d T') : evI i rec T wm n H K = evI i rec T' wm n H K := by
 cases i with
 | mv x_ =>
  have hx_ := ev_congr (T := T) (T' := T') (x := x_) (fun d hd => h d (by simp [uI, hd]))
  show eMv x_ rec T wm n H K = eMv x_ rec T' wm n H K
  simp only [eMv, hx_]
 | pk c_ a_ b_ =>
  have hc_ := ev_congr (T := T) (T' := T') (x := c_) (fun d hd => h d (by simp [uI, hd]))
  have ha_ := ev_congr (T := T) (T' := T') (x := a_) (fun d hd => h d (by simp [uI, hd]))
  have hb_ := ev_congr (T := T) (T' := T') (x := b_) (fun d hd => h d (by simp [uI, hd]))
  show ePk c_ a_ b_ rec T wm n H K = ePk c_ a_ b_ rec T' wm n H K
  simp only [ePk, hc_, ha_, hb_]
 | al z_ =>
  show eAl z_ rec T wm n H K = eAl z_ rec T' wm n H K
  rfl
 | bx x_ =>
  have hx_ := ev_congr (T := T) (T' := T') (x := x_) (fun d hd => h d (by simp [uI, hd]))
  show eBx x_ rec T wm n H K = eBx x_ rec T' wm n H K
  simp only [eBx, hx_]
 | ld x_ =>
  have hx_ := ev_congr (T := T) (T' := T') (x := x_) (fun d hd => h d (by simp [uI, hd]))
  show eLd x_ rec T wm n H K = eLd x_ rec T' wm n H K
  simp only [eLd, hx_]
 | la t_ x_ =>
  have hx_ := ev_congr (T := T) (T' := T') (x := x_) (fun d hd => h d (by simp [uI, hd]))
  show eLa t_ x_ rec T wm n H K = eLa t_ x_ rec T' wm n H K
  simp only [eLa, hx_]
 | st x_ v_ =>
  have hx_ := ev_congr (T := T) (T' := T') (x := x_) (fun d hd => h d (by simp [uI, hd]))
  have hv_ := ev_congr (T := T) (T' := T') (x := v_) (fun d hd => h d (by simp [uI, hd]))
  show eSt x_ v_ rec T wm n H K = eSt x_ v_ rec T' wm n H K
  simp only [eSt, hx_, hv_]
 | sa t_ x_ v_ =>
  have hx_ := ev_congr (T := T) (T' := T') (x := x_) (fun d hd => h d (by simp [uI, hd]))
  have hv_ := ev_congr (T := T) (T' := T') (x := v_) (fun d hd => h d (by simp [uI, hd]))
  show eSa t_ x_ v_ rec T wm n H K = eSa t_ x_ v_ rec T' wm n H K
  simp only [eSa, hx_, hv_]
 | nc x_ =>
  have hx_ := ev_congr (T := T) (T' := T') (x := x_) (fun d hd => h d (by simp [uI, hd]))
  show eNc x_ rec T wm n H K = eNc x_ rec T' wm n H K
  simp only [eNc, hx_]
 | iadd x_ y_ =>
  have hx_ := ev_congr (T := T) (T' := T') (x := x_) (fun d hd => h d (by simp [uI, hd]))
  have hy_ := ev_congr (T := T) (T' := T') (x := y_) (fun d hd => h d (by simp [uI, hd]))
  show eIadd x_ y_ rec T wm n H K = eIadd x_ y_ rec T' wm n H K
  simp only [eIadd, hx_, hy_]
 | isub x_ y_ =>
  have hx_ := ev_congr (T := T) (T' := T') (x := x_) (fun d hd => h d (by simp [uI, hd]))
  have hy_ := ev_congr (T := T) (T' := T') (x := y_) (fun d hd => h d (by simp [uI, hd]))
  show eIsub x_ y_ rec T wm n H K = eIsub x_ y_ rec T' wm n H K
  simp only [eIsub, hx_, hy_]
 | imul x_ y_ =>
  have hx_ := ev_congr (T := T) (T' := T') (x := x_) (fun d hd => h d (by simp [uI, hd]))
  have hy_ := ev_congr (T := T) (T' := T') (x := y_) (fun d hd => h d (by simp [uI, hd]))
  show eImul x_ y_ rec T wm n H K = eImul x_ y_ rec T' wm n H K
  simp only [eImul, hx_, hy_]
 | iquo x_ y_ =>
  have hx_ := ev_congr (T := T) (T' := T') (x := x_) (fun d hd => h d (by simp [uI, hd]))
  have hy_ := ev_congr (T := T) (T' := T') (x := y_) (fun d hd => h d (by simp [uI, hd]))
  show eIquo x_ y_ rec T wm n H K = eIquo x_ y_ rec T' wm n H K
  simp only [eIquo, hx_, hy_]
 | irem x_ y_ =>
  have hx_ := ev_congr (T := T) (T' := T') (x := x_) (fun d hd => h d (by simp [uI, hd]))
  have hy_ := ev_congr (T := T) (T' := T') (x := y_) (fun d hd => h d (by simp [uI, hd]))
  show eIrem x_ y_ rec T wm n H K = eIrem x_ y_ rec T' wm n H K
  simp only [eIrem, hx_, hy_]
 | iand x_ y_ =>
  have hx_ := ev_congr (T := T) (T' := T') (x := x_) (fun d hd => h d (by simp [uI, hd]))
  have hy_ := ev_congr (T := T) (T' := T') (x := y_) (fun d hd => h d (by simp [uI, hd]))
  show eIand x_ y_ rec T wm n H K = eIand x_ y_ rec T' wm n H K
  simp only [eIand, hx_, hy_]
 | ior x_ y_ =>
  have hx_ := ev_congr (T := T) (T' := T') (x := x_) (fun d hd => h d (by simp [uI, hd]))
  have hy_ := ev_congr (T := T) (T' := T') (x := y_) (fun d hd => h d (by simp [uI, hd]))
  show eIor x_ y_ rec T wm n H K = eIor x_ y_ rec T' wm n H K
  simp only [eIor, hx_, hy_]
 | ixor x_ y_ =>
  have hx_ := ev_congr (T := T) (T' := T') (x := x_) (fun d hd => h d (by simp [uI, hd]))
  have hy_ := ev_congr (T := T) (T' := T') (x := y_) (fun d hd => h d (by simp [uI, hd]))
  show eIxor x_ y_ rec T wm n H K = eIxor x_ y_ rec T' wm n H K
  simp only [eIxor, hx_, hy_]
 | ishl x_ y_ =>
  have hx_ := ev_congr (T := T) (T' := T') (x := x_) (fun d hd => h d (by simp [uI, hd]))
  have hy_ := ev_congr (T := T) (T' := T') (x := y_) (fun d hd => h d (by simp [uI, hd]))
  show eIshl x_ y_ rec T wm n H K = eIshl x_ y_ rec T' wm n H K
  simp only [eIshl, hx_, hy_]
 | ishr x_ y_ =>
  have hx_ := ev_congr (T := T) (T' := T') (x := x_) (fun d hd => h d (by simp [uI, hd]))
  have hy_ := ev_congr (T := T) (T' := T') (x := y_) (fun d hd => h d (by simp [uI, hd]))
  show eIshr x_ y_ rec T wm n H K = eIshr x_ y_ rec T' wm n H K
  simp only [eIshr, hx_, hy_]
 | ilss x_ y_ =>
  have hx_ := ev_congr (T := T) (T' := T') (x := x_) (fun d hd => h d (by simp [uI, hd]))
  have hy_ := ev_congr (T := T) (T' := T') (x := y_) (fun d hd => h d (by simp [uI, hd]))
  show eIlss x_ y_ rec T wm n H K = eIlss x_ y_ rec T' wm n H K
  simp only [eIlss, hx_, hy_]
 | ileq x_ y_ =>
  have hx_ := ev_congr (T := T) (T' := T') (x := x_) (fun d hd => h d (by simp [uI, hd]))
  have hy_ := ev_congr (T := T) (T' := T') (x := y_) (fun d hd => h d (by simp [uI, hd]))
  show eIleq x_ y_ rec T wm n H K = eIleq x_ y_ rec T' wm n H K
  simp only [eIleq, hx_, hy_]
 | igtr x_ y_ =>
  have hx_ := ev_congr (T := T) (T' := T') (x := x_) (fun d hd => h d (by simp [uI, hd]))
  have hy_ := ev_congr (T := T) (T' := T') (x := y_) (fun d hd => h d (by simp [uI, hd]))
  show eIgtr x_ y_ rec T wm n H K = eIgtr x_ y_ rec T' wm n H K
  simp only [eIgtr, hx_, hy_]
 | igeq x_ y_ =>
  have hx_ := ev_congr (T := T) (T' := T') (x := x_) (fun d hd => h d (by simp [uI, hd]))
  have hy_ := ev_congr (T := T) (T' := T') (x := y_) (fun d hd => h d (by simp [uI, hd]))
  show eIgeq x_ y_ rec T wm n H K = eIgeq x_ y_ rec T' wm n H K
  simp only [eIgeq, hx_, hy_]
 | eq h_ x_ y_ =>
  have hx_ := ev_congr (T := T) (T' := T') (x := x_) (fun d hd => h d (by simp [uI, hd]))
  have hy_ := ev_congr (T := T) (T' := T') (x := y_) (fun d hd => h d (by simp [uI, hd]))
  show eEq h_ x_ y_ rec T wm n H K = eEq h_ x_ y_ rec T' wm n H K
  simp only [eEq, hx_, hy_]
 | ne h_ x_ y_ =>
  have hx_ := ev_congr (T := T) (T' := T') (x := x_) (fun d hd => h d (by simp [uI, hd]))
  have hy_ := ev_congr (T := T) (T' := T') (x := y_) (fun d hd => h d (by simp [uI, hd]))
  show eNe h_ x_ y_ rec T wm n H K = eNe h_ x_ y_ rec T' wm n H K
  simp only [eNe, hx_, hy_]
 | nt x_ =>
  have hx_ := ev_congr (T := T) (T' := T') (x := x_) (fun d hd => h d (by simp [uI, hd]))
  show eNt x_ rec T wm n H K = eNt x_ rec T' wm n H K
  simp only [eNt, hx_]
 | cv k_ x_ =>
  have hx_ := ev_congr (T := T) (T' := T') (x := x_) (fun d hd => h d (by simp [uI, hd]))
  show eCv k_ x_ rec T wm n H K = eCv k_ x_ rec T' wm n H K
  simp only [eCv, hx_]
 | fa t_ x_ f_ u_ =>
  have hx_ := ev_congr (T := T) (T' := T') (x := x_) (fun d hd => h d (by simp [uI, hd]))
  show eFa t_ x_ f_ u_ rec T wm n H K = eFa t_ x_ f_ u_ rec T' wm n H K
  simp only [eFa, hx_]
 | fd t_ x_ f_ =>
  have hx_ := ev_congr (T := T) (T' := T') (x := x_) (fun d hd => h d (by simp [uI, hd]))
  show eFd t_ x_ f_ rec T wm n H K = eFd t_ x_ f_ rec T' wm n H K
  simp only [eFd, hx_]
 | ia t_ e_ m_ x_ i_ =>
  have hx_ := ev_congr (T := T) (T' := T') (x := x_) (fun d hd => h d (by simp [uI, hd]))
  have hi_ := ev_congr (T := T) (T' := T') (x := i_) (fun d hd => h d (by simp [uI, hd]))
  show eIa t_ e_ m_ x_ i_ rec T wm n H K = eIa t_ e_ m_ x_ i_ rec T' wm n H K
  simp only [eIa, hx_, hi_]
 | ix t_ x_ i_ =>
  have hx_ := ev_congr (T := T) (T' := T') (x := x_) (fun d hd => h d (by simp [uI, hd]))
  have hi_ := ev_congr (T := T) (T' := T') (x := i_) (fun d hd => h d (by simp [uI, hd]))
  show eIx t_ x_ i_ rec T wm n H K = eIx t_ x_ i_ rec T' wm n H K
  simp only [eIx, hx_, hi_]
 | ex x_ i_ =>
  have hx_ := ev_congr (T := T) (T' := T') (x := x_) (fun d hd => h d (by simp [uI, hd]))
  show eEx x_ i_ rec T wm n H K = eEx x_ i_ rec T' wm n H K
  simp only [eEx, hx_]
 | bl z_ ps_ =>
  have hps_ := fun (α : Type) => build_congr (T := T) (T' := T') (ps := ps_) (fun d hd => h d (by simp [uI, hd])) (α := α)
  show eBl z_ ps_ rec T wm n H K = eBl z_ ps_ rec T' wm n H K
  simp only [eBl, hps_]
 | bs z_ m_ ps_ =>
  have hps_ := fun (α : Type) => build_congr (T := T) (T' := T') (ps := ps_) (fun d hd => h d (by simp [uI, hd])) (α := α)
  show eBs z_ m_ ps_ rec T wm n H K = eBs z_ m_ ps_ rec T' wm n H K
  simp only [eBs, hps_]
 | ms z_ x_ =>
  have hx_ := ev_congr (T := T) (T' := T') (x := x_) (fun d hd => h d (by simp [uI, hd]))
  show eMs z_ x_ rec T wm n H K = eMs z_ x_ rec T' wm n H K
  simp only [eMs, hx_]
 | mm  =>
  show eMm  rec T wm n H K = eMm  rec T' wm n H K
  rfl
 | mu h_ m_ k_ v_ =>
  have hm_ := ev_congr (T := T) (T' := T') (x := m_) (fun d hd => h d (by simp [uI, hd]))
  have hk_ := ev_congr (T := T) (T' := T') (x := k_) (fun d hd => h d (by simp [uI, hd]))
  have hv_ := ev_congr (T := T) (T' := T') (x := v_) (fun d hd => h d (by simp [uI, hd]))
  show eMu h_ m_ k_ v_ rec T wm n H K = eMu h_ m_ k_ v_ rec T' wm n H K
  simp only [eMu, hm_, hk_, hv_]
 | lu h_ z_ m_ k_ ok_ =>
  have hm_ := ev_congr (T := T) (T' := T') (x := m_) (fun d hd => h d (by simp [uI, hd]))
  have hk_ := ev_congr (T := T) (T' := T') (x := k_) (fun d hd => h d (by simp [uI, hd]))
  show eLu h_ z_ m_ k_ ok_ rec T wm n H K = eLu h_ z_ m_ k_ ok_ rec T' wm n H K
  simp only [eLu, hm_, hk_]
 | rg m_ =>
  have hm_ := ev_congr (T := T) (T' := T') (x := m_) (fun d hd => h d (by simp [uI, hd]))
  show eRg m_ rec T wm n H K = eRg m_ rec T' wm n H K
  simp only [eRg, hm_]
 | nx x_ =>
  have hx_ := ev_congr (T := T) (T' := T') (x := x_) (fun d hd => h d (by simp [uI, hd]))
  show eNx x_ rec T wm n H K = eNx x_ rec T' wm n H K
  simp only [eNx, hx_]
 | en x_ =>
  have hx_ := ev_congr (T := T) (T' := T') (x := x_) (fun d hd => h d (by simp [uI, hd]))
  show eEn x_ rec T wm n H K = eEn x_ rec T' wm n H K
  simp only [eEn, hx_]
 | mf f_ fi_ ca_ =>
  have hfi_ := evs_congr (T := T) (T' := T') (xs := fi_) (fun d hd => h d (by simp [uI, hd]))
  have hca_ := evs_congr (T := T) (T' := T') (xs := ca_) (fun d hd => h d (by simp [uI, hd]))
  show eMf f_ fi_ ca_ rec T wm n H K = eMf f_ fi_ ca_ rec T' wm n H K
  simp only [eMf, hfi_, hca_]
 | sl q_ e_ x_ lo_ hi_ mx_ =>
  have hx_ := ev_congr (T := T) (T' := T') (x := x_) (fun d hd => h d (by simp [uI, hd]))
  have hlo_ := opt_congr (T := T) (T' := T') (x := lo_) (fun d hd => h d (by simp [uI, hd]))
  have hhi_ := opt_congr (T := T) (T' := T') (x := hi_) (fun d hd => h d (by simp [uI, hd]))
  have hmx_ := opt_congr (T := T) (T' := T') (x := mx_) (fun d hd => h d (by simp [uI, hd]))
  show eSl q_ e_ x_ lo_ hi_ mx_ rec T wm n H K = eSl q_ e_ x_ lo_ hi_ mx_ rec T' wm n H K
  simp only [eSl, hx_, hlo_, hhi_, hmx_]
 | ln q_ x_ =>
  have hx_ := ev_congr (T := T) (T' := T') (x := x_) (fun d hd => h d (by simp [uI, hd]))
  show eLn q_ x_ rec T wm n H K = eLn q_ x_ rec T' wm n H K
  simp only [eLn, hx_]
 | cp x_ =>
  have hx_ := ev_congr (T := T) (T' := T') (x := x_) (fun d hd => h d (by simp [uI, hd]))
  show eCp x_ rec T wm n H K = eCp x_ rec T' wm n H K
  simp only [eCp, hx_]
 | mi x_ y_ =>
  have hx_ := ev_congr (T := T) (T' := T') (x := x_) (fun d hd => h d (by simp [uI, hd]))
  have hy_ := ev_congr (T := T) (T' := T') (x := y_) (fun d hd => h d (by simp [uI, hd]))
  show eMi x_ y_ rec T wm n H K = eMi x_ y_ rec T' wm n H K
  simp only [eMi, hx_, hy_]
 | ma x_ y_ =>
  have hx_ := ev_congr (T := T) (T' := T') (x := x_) (fun d hd => h d (by simp [uI, hd]))
  have hy_ := ev_congr (T := T) (T' := T') (x := y_) (fun d hd => h d (by simp [uI, hd]))
  show eMa x_ y_ rec T wm n H K = eMa x_ y_ rec T' wm n H K
  simp only [eMa, hx_, hy_]
 | ap e_ s_ x_ =>
  have hs_ := ev_congr (T := T) (T' := T') (x := s_) (fun d hd => h d (by simp [uI, hd]))
  have hx_ := ev_congr (T := T) (T' := T') (x := x_) (fun d hd => h d (by simp [uI, hd]))
  show eAp e_ s_ x_ rec T wm n H K = eAp e_ s_ x_ rec T' wm n H K
  simp only [eAp, hs_, hx_]
 | az z_ s_ x_ =>
  have hs_ := ev_congr (T := T) (T' := T') (x := s_) (fun d hd => h d (by simp [uI, hd]))
  have hx_ := ev_congr (T := T) (T' := T') (x := x_) (fun d hd => h d (by simp [uI, hd]))
  show eAz z_ s_ x_ rec T wm n H K = eAz z_ s_ x_ rec T' wm n H K
  simp only [eAz, hs_, hx_]
 | co e_ d_ s_ =>
  have hd_ := ev_congr (T := T) (T' := T') (x := d_) (fun d hd => h d (by simp [uI, hd]))
  have hs_ := ev_congr (T := T) (T' := T') (x := s_) (fun d hd => h d (by simp [uI, hd]))
  show eCo e_ d_ s_ rec T wm n H K = eCo e_ d_ s_ rec T' wm n H K
  simp only [eCo, hd_, hs_]
 | cl z_ s_ =>
  have hs_ := ev_congr (T := T) (T' := T') (x := s_) (fun d hd => h d (by simp [uI, hd]))
  show eCl z_ s_ rec T wm n H K = eCl z_ s_ rec T' wm n H K
  simp only [eCl, hs_]
 | ca f_ as_ =>
  have has_ := evs_congr (T := T) (T' := T') (xs := as_) (fun d hd => h d (by simp [uI, hd]))
  show eCa f_ as_ rec T wm n H K = eCa f_ as_ rec T' wm n H K
  simp only [eCa, has_]
 | cd f_ as_ =>
  have hf_ := ev_congr (T := T) (T' := T') (x := f_) (fun d hd => h d (by simp [uI, hd]))
  have has_ := evs_congr (T := T) (T' := T') (xs := as_) (fun d hd => h d (by simp [uI, hd]))
  show eCd f_ as_ rec T wm n H K = eCd f_ as_ rec T' wm n H K
  simp only [eCd, hf_, has_]
 | bb x_ =>
  have hx_ := ev_congr (T := T) (T' := T') (x := x_) (fun d hd => h d (by simp [uI, hd]))
  show eBb x_ rec T wm n H K = eBb x_ rec T' wm n H K
  simp only [eBb, hx_]
 | cs x_ o_ v_ =>
  have hx_ := ev_congr (T := T) (T' := T') (x := x_) (fun d hd => h d (by simp [uI, hd]))
  have ho_ := ev_congr (T := T) (T' := T') (x := o_) (fun d hd => h d (by simp [uI, hd]))
  have hv_ := ev_congr (T := T) (T' := T') (x := v_) (fun d hd => h d (by simp [uI, hd]))
  show eCs x_ o_ v_ rec T wm n H K = eCs x_ o_ v_ rec T' wm n H K
  simp only [eCs, hx_, ho_, hv_]
 | lx x_ =>
  have hx_ := ev_congr (T := T) (T' := T') (x := x_) (fun d hd => h d (by simp [uI, hd]))
  show eLx x_ rec T wm n H K = eLx x_ rec T' wm n H K
  simp only [eLx, hx_]
 | sx x_ v_ =>
  have hx_ := ev_congr (T := T) (T' := T') (x := x_) (fun d hd => h d (by simp [uI, hd]))
  have hv_ := ev_congr (T := T) (T' := T') (x := v_) (fun d hd => h d (by simp [uI, hd]))
  show eSx x_ v_ rec T wm n H K = eSx x_ v_ rec T' wm n H K
  simp only [eSx, hx_, hv_]
 | no  =>
  show eNo  rec T wm n H K = eNo  rec T' wm n H K
  rfl
end
end Go.Proofs.YtgaghaggiblabaaGreatDoor.Ev
namespace Go.Proofs.YtgaghaggiblabaaGreatDoor.Ev
open Go.RowKit
def Part (H V R : Hp) : Prop := ∀ b, (hget b V = hget b H /\ hget b R = none) \/ (hget b V = none /\ hget b R = hget b H)
theorem Part.all (H : Hp) : Part H H [] := fun _ => .inl ⟨rfl, rfl⟩
theorem Part.none (H : Hp) : Part H [] H := fun _ => .inr ⟨rfl, rfl⟩
theorem Part.trans {H V R V' R' : Hp} (h : Part H V R) (h' : Part V V' R') : Part H V' (happ R' R) := by
 intro b
 rw [hget_happ]
 rcases h b with ⟨h1, h2⟩ | ⟨h1, h2⟩
 ·rcases h' b with ⟨h3, h4⟩ | ⟨h3, h4⟩
  ·exact .inl ⟨h3.trans h1, by rw [h4, h2]; rfl⟩
  ·refine .inr ⟨h3, ?_⟩
   rw [h4, h1, h2]
   cases hget b H <;> rfl
 ·have h5 : hget b V' = Option.none /\ hget b R' = Option.none := by
   rcases h' b with ⟨h3, h4⟩ | ⟨h3, h4⟩
   ·exact ⟨h3.trans h1, h4⟩
   ·exact ⟨h3, h4.trans h1⟩
  exact .inr ⟨h5.1, by rw [h5.2, h2]; rfl⟩
theorem bofb_ok {b : Nat} {H : Hp} {k : Hp -> Hp -> Out} {r : AV × Nat × Hp} (h : bofb b H k = some r) : ∃ V R, Part H V R /\ k V R = some r /\ (∀ c, hget c V ≠ Option.none -> c = b) /\ hget b R = Option.none := by
 unfold bofb at h
 rw [hk_eq] at h
 cases e : hget b H with
 | none =>
  rw [e] at h
  exact ⟨[], H, .none H, h, fun c hc => absurd rfl hc, e⟩
 | some ab =>
  rw [e] at h
  refine ⟨[(b, ab)], hdel b H, ?_, h, ?_, ?_⟩
  ·intro c
   have hg : hget c [(b, ab)] = if b = c then some ab else Option.none := rfl
   rw [hg, hget_hdel]
   by_cases hc : b = c
   ·subst hc; exact .inl ⟨by simp [e], by simp⟩
   ·exact .inr ⟨by simp [hc], by rw [if_neg (Ne.symm hc)]⟩
  ·intro c hc
   have hg : hget c [(b, ab)] = if b = c then some ab else Option.none := rfl
   rw [hg] at hc
   by_cases h' : b = c
   ·exact h'.symm
   ·simp [h'] at hc
  ·rw [hget_hdel, if_pos rfl]
def blkOf (v : AV) : Option Nat := match v with | .ptr b _ _ _ => some b | .sr b _ _ _ _ _ => some b | .mp b => some b | _ => none
theorem bof_ok {v : AV} {H : Hp} {k : Hp -> Hp -> Out} {r : AV × Nat × Hp} (h : bof v H k = some r) : ∃ V R, Part H V R /\ k V R = some r /\ (∀ c, hget c V ≠ Option.none -> blkOf v = some c) /\ (∀ b, blkOf v = some b -> hget b R = Option.none) := by
 cases v <;> first
  | (obtain ⟨V, R, h1, h2, h3, h4⟩ := bofb_ok h; exact ⟨V, R, h1, h2, fun c hc => by rw [h3 c hc]; rfl, fun b hb => by cases hb; exact h4⟩)
  | exact ⟨[], H, .none H, h, fun c hc => absurd rfl hc, fun b hb => by cases hb⟩
theorem hide_ok {T : Tm} : ∀ {ps : List O} {H : Hp} {k : Hp -> Hp -> Out} {r : AV × Nat × Hp}, hide T ps H k = some r ->
  ∃ V R, Part H V R /\ k V R = some r /\ (∀ c, hget c V ≠ Option.none -> ∃ x, x ∈ ps /\ blkOf (ev T x) = some c) /\ (∀ x b, x ∈ ps -> blkOf (ev T x) = some b -> hget b R = Option.none) := by
 intro ps
 induction ps with
 | nil => intro H k r h; exact ⟨[], H, .none H, h, fun c hc => absurd rfl hc, fun x b hx => by cases hx⟩
 | cons p ps ih =>
  intro H k r h
  replace h : bof (ev T p) H (fun A H => hide T ps H fun B H => k (happ A B) H) = some r := h
  obtain ⟨V, R, h1, h2, h3, h4⟩ := bof_ok h
  obtain ⟨V', R', g1, g2, g3, g4⟩ := ih h2
  refine ⟨happ V V', R', ?_, g2, ?_, ?_⟩
  ·intro b
   rw [hget_happ]
   rcases h1 b with ⟨e1, e2⟩ | ⟨e1, e2⟩
   ·have e3 : hget b V' = Option.none /\ hget b R' = Option.none := by
     rcases g1 b with ⟨e3, e4⟩ | ⟨e3, e4⟩
     ·exact ⟨e3.trans e2, e4⟩
     ·exact ⟨e3, e4.trans e2⟩
    exact .inl ⟨by rw [e3.1, e1]; cases hget b H <;> rfl, e3.2⟩
   ·rcases g1 b with ⟨e3, e4⟩ | ⟨e3, e4⟩
    ·exact .inl ⟨by rw [e1, e3, e2]; rfl, e4⟩
    ·exact .inr ⟨by rw [e1, e3]; rfl, e4.trans e2⟩
  ·intro c hc
   rw [hget_happ] at hc
   cases e : hget c V with
   | some ab => exact ⟨p, List.mem_cons_self, h3 c (by rw [e]; simp)⟩
   | none =>
    rw [e] at hc
    obtain ⟨x, hx, hb⟩ := g3 c hc
    exact ⟨x, List.mem_cons_of_mem _ hx, hb⟩
  ·intro x b hx hb
   rcases List.mem_cons.1 hx with rfl | hx
   ·have e := h4 b hb
    rcases g1 b with ⟨e3, e4⟩ | ⟨e3, e4⟩
    ·exact e4
    ·exact e4.trans e
   ·exact g4 x b hx hb
theorem hget_hin (lo hi b : Nat) : ∀ H : Hp, hget b (hin lo hi H) = if lo <= b /\ b < hi then hget b H else none := by
 intro H
 induction H with
 | nil => show Option.none = _; split <;> rfl
 | cons p H ih =>
  obtain ⟨c, ab⟩ := p
  show hget b (Bool.rec (hin lo hi H) ((c, ab) :: hin lo hi H) (inr lo hi c)) = _
  have hr : inr lo hi c = decide (lo <= c /\ c < hi) := by
   unfold inr
   rw [and'_eq]
   rw [Bool.eq_iff_iff]
   simp only [Bool.and_eq_true, decide_eq_true_eq, Nat.ble_eq]
   rfl
  rw [hr]
  have hg : ∀ L : Hp, hget b ((c, ab) :: L) = if c = b then some ab else hget b L := fun _ => rfl
  by_cases h : lo <= c /\ c < hi
  ·rw [decide_eq_true h]
   show hget b ((c, ab) :: hin lo hi H) = _
   rw [hg, hg, ih]
   by_cases hc : c = b
   ·subst hc; simp [h]
   ·simp [hc]
  ·rw [decide_eq_false h]
   show hget b (hin lo hi H) = _
   rw [ih, hg]
   by_cases hc : c = b
   ·subst hc; simp [h]
   ·simp [hc]
theorem hget_hout (lo hi b : Nat) : ∀ H : Hp, hget b (hout lo hi H) = if lo <= b /\ b < hi then none else hget b H := by
 intro H
 induction H with
 | nil => show Option.none = _; split <;> rfl
 | cons p H ih =>
  obtain ⟨c, ab⟩ := p
  show hget b (Bool.rec ((c, ab) :: hout lo hi H) (hout lo hi H) (inr lo hi c)) = _
  have hr : inr lo hi c = decide (lo <= c /\ c < hi) := by
   unfold inr
   rw [and'_eq]
   rw [Bool.eq_iff_iff]
   simp only [Bool.and_eq_true, decide_eq_true_eq, Nat.ble_eq]
   rfl
  rw [hr]
  have hg : ∀ L : Hp, hget b ((c, ab) :: L) = if c = b then some ab else hget b L := fun _ => rfl
  by_cases h : lo <= c /\ c < hi
  ·rw [decide_eq_true h]
   show hget b (hout lo hi H) = _
   rw [ih, hg]
   by_cases hc : c = b
   ·subst hc; simp [h]
   ·simp [hc]
  ·rw [decide_eq_false h]
   show hget b ((c, ab) :: hout lo hi H) = _
   rw [hg, hg, ih]
   by_cases hc : c = b
   ·subst hc; simp [h]
   ·simp [hc]
theorem nthR_eq (L : List (Nat × Nat)) (i : Nat) : nthR L i = (L[i]?).getD (0, 0) := by
 induction L generalizing i with
 | nil => rfl
 | cons p L ih =>
  show (Bool.rec (nthR L (Nat.sub i 1)) p (Nat.beq i 0) : Nat × Nat) = _
  rw [brec_beq]
  cases i with
  | zero => simp
  | succ i => rw [if_neg (by omega), ih]; simp
theorem unh_ok {L : List (Nat × Nat)} : ∀ {un : List Nat} {H : Hp} {k : Hp -> Hp -> Out} {r : AV × Nat × Hp}, unh L un H k = some r ->
  ∃ A V, Part H V A /\ k A V = some r /\ (∀ d b, d ∈ un -> (nthR L d).1 <= b -> b < (nthR L d).2 -> hget b V = Option.none) /\ (∀ b, (∀ d, d ∈ un -> ¬ ((nthR L d).1 <= b /\ b < (nthR L d).2)) -> hget b V = hget b H) := by
 intro un
 induction un with
 | nil => intro H k r h; exact ⟨[], H, .all H, h, fun d b hd => (by cases hd), fun b _ => rfl⟩
 | cons d un ih =>
  intro H k r h
  replace h : unh L un (hout (nthR L d).1 (nthR L d).2 H) (fun A G => k (happ (hin (nthR L d).1 (nthR L d).2 H) A) G) = some r := h
  obtain ⟨A, V, h1, h2, h3, h4⟩ := ih h
  refine ⟨_, V, ?_, h2, ?_, ?_⟩
  ·intro b
   rw [hget_happ, hget_hin]
   have h1 := h1 b
   rw [hget_hout] at h1
   by_cases hb : (nthR L d).1 <= b /\ b < (nthR L d).2
   ·rw [if_pos hb] at h1 ⊢
    have e : hget b V = Option.none /\ hget b A = Option.none := by
     rcases h1 with ⟨e1, e2⟩ | ⟨e1, e2⟩ <;> exact ⟨e1, e2⟩
    exact .inr ⟨e.1, by rw [e.2]; cases hget b H <;> rfl⟩
   ·rw [if_neg hb] at h1 ⊢
    simpa using h1
  ·intro d' b hd hlo hhi
   rcases List.mem_cons.1 hd with rfl | hd
   ·rcases h1 b with ⟨e1, e2⟩ | ⟨e1, e2⟩
    ·rw [e1, hget_hout, if_pos ⟨hlo, hhi⟩]
    ·exact e1
   ·exact h3 d' b hd hlo hhi
  ·intro b hb
   rw [h4 b (fun d' hd' => hb d' (List.mem_cons_of_mem _ hd')), hget_hout, if_neg (hb d List.mem_cons_self)]
end Go.Proofs.YtgaghaggiblabaaGreatDoor.Ev
namespace Go.Proofs.YtgaghaggiblabaaGreatDoor.Ev
open Go.RowKit
section
variable {P : PX}
structure Ext0 (P : PX) (wm n0 : Nat) (s t : St) : Prop where
 inv : Inv P t
 kle : Kle s.K t.K
 rle : Rle s.ρ t.ρ
 rlt : ∀ b, b < n0 -> t.ρ b = s.ρ b
 nle : s.n <= t.n
 frame : ∀ c, c < s.w.heap.size -> ¬ Img s.ρ s.H c -> t.w.heap[c]? = s.w.heap[c]?
 size : s.w.heap.size <= t.w.heap.size
 os : t.w.os = s.w.os
 tape : t.w.tape = s.w.tape
 out : t.w.output = s.w.output
 wmk : ∀ b, b < wm -> hget b t.H = hget b s.H
 sub : ∀ b, b < n0 -> hget b s.H = none -> hget b t.H = none
 knew : ∀ c a, t.K c = some a -> s.K c = some a \/ s.w.heap.size <= c \/ Img s.ρ s.H c
 rnew : ∀ c, Img t.ρ t.H c -> s.w.heap.size <= c \/ Img s.ρ s.H c
theorem Ext0.trans {wm n0 : Nat} {s t u : St} (h : Ext0 P wm n0 s t) (k : Ext0 P wm n0 t u) : Ext0 P wm n0 s u where
 inv := k.inv
 kle := fun c a e => k.kle c a (h.kle c a e)
 rle := fun b x e => k.rle b x (h.rle b x e)
 rlt := fun b hb => (k.rlt b hb).trans (h.rlt b hb)
 nle := Nat.le_trans h.nle k.nle
 frame := fun c hc hi => by
  have hi' : ¬ Img t.ρ t.H c := fun e => by
   rcases h.rnew c e with h1 | h1
   ·omega
   ·exact hi h1
  exact (k.frame c (Nat.lt_of_lt_of_le hc h.size) hi').trans (h.frame c hc hi)
 size := Nat.le_trans h.size k.size
 os := k.os.trans h.os
 tape := k.tape.trans h.tape
 out := k.out.trans h.out
 wmk := fun b hb => (k.wmk b hb).trans (h.wmk b hb)
 sub := fun b hb e => k.sub b hb (h.sub b hb e)
 knew := fun c a e => by
  rcases k.knew c a e with h1 | h1 | h1
  ·exact h.knew c a h1
  ·exact .inr (.inl (Nat.le_trans h.size h1))
  ·exact .inr (h.rnew c h1)
 rnew := fun c e => by
  rcases k.rnew c e with h1 | h1
  ·exact .inl (Nat.le_trans h.size h1)
  ·exact h.rnew c h1
theorem Ext0.ext {wm : Nat} {s t : St} (h : Ext0 P wm s.n s t) : Ext P wm s t :=
 ⟨h.inv, h.kle, h.rle, h.rlt, h.nle, h.frame, h.size, h.os, h.tape, h.out, h.wmk, h.sub, h.knew, h.rnew⟩
theorem Inv.heap {K : Kap} {ρ : Rho} {n : Nat} {H H' : Hp} {w : World} (h : Inv P ⟨K, ρ, n, H, w⟩) (hH : ∀ b, hget b H' = hget b H) : Inv P ⟨K, ρ, n, H', w⟩ :=
 ⟨h.kok, ⟨fun b ab e => h.hr.blk b ab ((hH b).symm.trans e), fun b b' x y c k k' e e' => h.hr.inj b b' x y c k k' ((hH b).symm.trans e) ((hH b').symm.trans e')⟩, h.rdom⟩
theorem Img.heap {ρ : Rho} {H H' : Hp} {c : Nat} (hH : ∀ b, hget b H' = hget b H) (h : Img ρ H' c) : Img ρ H c := let ⟨b, ab, k, e, e'⟩ := h; ⟨b, ab, k, (hH b).symm.trans e, e'⟩
theorem Ext0.heap {wm n0 : Nat} {s : St} {K : Kap} {ρ : Rho} {n : Nat} {H H' : Hp} {w : World} (h : Ext0 P wm n0 s ⟨K, ρ, n, H, w⟩) (hH : ∀ b, hget b H' = hget b H) : Ext0 P wm n0 s ⟨K, ρ, n, H', w⟩ :=
 ⟨h.inv.heap hH, h.kle, h.rle, h.rlt, h.nle, h.frame, h.size, h.os, h.tape, h.out, fun b hb => (hH b).trans (h.wmk b hb), fun b hb e => (hH b).trans (h.sub b hb e), h.knew, fun c e => h.rnew c (e.heap hH)⟩
theorem Ext0.room {wm n0 : Nat} {s : St} (h : Inv P s) {n : Nat} (hn : s.n <= n) : Ext0 P wm n0 s ⟨s.K, s.ρ, n, s.H, s.w⟩ :=
 ⟨⟨h.kok, h.hr, fun b x e => Nat.lt_of_lt_of_le (h.rdom b x e) hn⟩, fun _ _ e => e, fun _ _ e => e, fun _ _ => rfl, hn, fun _ _ _ => rfl, Nat.le_refl _, rfl, rfl, rfl, fun _ _ => rfl, fun _ _ e => e, fun _ _ e => .inl e, fun _ e => .inr e⟩
theorem R.restrict {K1 K2 : Kap} {ρ1 ρ2 ρ3 : Rho} (h1 : ∀ b x, ρ1 b = some x -> ρ3 b = ρ2 b) {as : List AV} {ls : List Lay} {vs : List Value} (h : R P K1 ρ1 as ls vs) : ∀ {ms : List Lay} {ws : List Value}, R P K2 ρ2 as ms ws -> R P K2 ρ3 as ms ws := by
 induction h with
 | nil => intro ms ws h'; cases h'; exact .nil
 | int _ ih => intro ms ws h'; cases h'; exact .int (ih h1 ‹_›)
 | bool _ ih => intro ms ws h'; cases h'; exact .bool (ih h1 ‹_›)
 | str _ ih =>
  intro ms ws h'
  generalize hq : strOf _ = q at h'
  cases h' with
  | str g1 => exact .str (ih h1 g1)
 | nilp _ ih => intro ms ws h'; cases h'; exact .nilp (ih h1 ‹_›)
 | sn _ ih => intro ms ws h'; cases h'; exact .sn (ih h1 ‹_›)
 | se _ ih => intro ms ws h'; cases h'; exact .se (ih h1 ‹_›)
 | nilf _ ih => intro ms ws h'; cases h'; exact .nilf (ih h1 ‹_›)
 | nilm _ ih => intro ms ws h'; cases h'; exact .nilm (ih h1 ‹_›)
 | ob _ _ _ ih =>
  intro ms ws h'
  generalize hq : lcode _ = q at h'
  cases h' with
  | ob g1 g2 => exact .ob g1 (ih h1 g2)
 | cn _ ih => intro ms ws h'; cases h'; exact .cn (ih h1 ‹_›)
 | ptr e1 _ _ _ ih =>
  intro ms ws h'
  generalize hq : lcode _ = q at h'
  cases h' with
  | ptr g1 g2 g3 g4 => exact .ptr ((h1 _ _ e1).trans g1) g2 g3 (ih h1 g4)
 | pv _ _ _ _ ih => intro ms ws h'; cases h' with | pv g1 g2 g3 => exact .pv g1 g2 (ih h1 g3)
 | sv _ _ _ _ _ _ ih => intro ms ws h'; cases h' with | sv g1 g2 g3 g4 g5 => exact .sv g1 g2 g3 g4 (ih h1 g5)
 | sr e1 _ _ _ _ _ _ ih =>
  intro ms ws h'
  generalize hq : lcode _ = q at h'
  cases h' with
  | sr g1 g2 g3 g4 g5 g6 g7 => exact .sr ((h1 _ _ e1).trans g1) g2 g3 g4 g5 g6 (ih h1 g7)
 | agg _ _ _ ih1 ih2 => intro ms ws h'; cases h' with | agg g1 g2 g3 => exact .agg g1 (ih1 h1 g2) (ih2 h1 g3)
 | fn _ _ _ ih1 ih2 ih3 => intro ms ws h'; cases h' with | fn g1 g2 g3 => exact .fn (ih1 h1 g1) (ih2 h1 g2) (ih3 h1 g3)
 | mpm e1 _ ih =>
  intro ms ws h'
  cases h' with
  | mpm g1 g2 => exact .mpm ((h1 _ _ e1).trans g1) (ih h1 g2)
  | mpi g1 g2 => exact .mpi ((h1 _ _ e1).trans g1) (ih h1 g2)
 | mpi e1 _ ih =>
  intro ms ws h'
  cases h' with
  | mpm g1 g2 => exact .mpm ((h1 _ _ e1).trans g1) (ih h1 g2)
  | mpi g1 g2 => exact .mpi ((h1 _ _ e1).trans g1) (ih h1 g2)
variable {K1 K2 : Kap} {ρ1 ρ2 ρ3 : Rho}
theorem V1.restrict (h1 : ∀ b x, ρ1 b = some x -> ρ3 b = ρ2 b) {a : AV} {v w : Value} (h : V1 P K1 ρ1 a v) (h' : V1 P K2 ρ2 a w) : V1 P K2 ρ3 a w := by
 rcases h with h | ⟨l, c, h, e⟩
 ·exact .inl h
 ·rcases h' with h' | ⟨l', c', h', e'⟩
  ·exact .inl h'
  ·exact .inr ⟨l', c', h.restrict h1 h', e'⟩
theorem VR.restrict (h1 : ∀ b x, ρ1 b = some x -> ρ3 b = ρ2 b) {a : AV} {v w : Value} (h : VR P K1 ρ1 a v) (h' : VR P K2 ρ2 a w) : VR P K2 ρ3 a w := by
 rcases h with h | ⟨l, vs, e, _, h⟩
 ·rcases h' with h' | ⟨l', vs', e', ew, h'⟩
  ·exact .inl (h.restrict h1 h')
  ·subst e'
   rcases h with h | ⟨_, _, h, _⟩
   ·cases h
   ·cases h
 ·subst e
  rcases h' with h' | ⟨l', vs', e', ew, h'⟩
  ·rcases h' with h' | ⟨_, _, h', _⟩
   ·cases h'
   ·cases h'
  ·cases e'
   refine .inr ⟨l, vs', rfl, ew, ?_⟩
   clear ew
   generalize vs'.toList = ws at h'
   generalize vs.toList = us at h
   induction h generalizing ws with
   | nil => cases h'; exact .nil
   | cons g1 _ ih => cases h' with | cons g2 g3 => exact .cons (g1.restrict h1 g2) (ih _ g3)
theorem BR.restrict (h1 : ∀ b x, ρ1 b = some x -> ρ3 b = ρ2 b) {ab : AB} {k k' : BL} {o o' : Obj} (h : BR P K1 ρ1 ab k o) (h' : BR P K2 ρ2 ab k' o') : BR P K2 ρ3 ab k' o' := by
 cases ab <;> cases k <;> cases o <;> simp only [BR] at h <;> cases k' <;> cases o' <;> simp only [BR] at h' ⊢
 ·obtain ⟨_, _, _, cs, rest, _, h5, _⟩ := h
  obtain ⟨g1, g2, g3, ds, rest', g4, g5, g6⟩ := h'
  exact ⟨g1, g2, g3, ds, rest', g4, h5.restrict h1 g5, g6⟩
 ·obtain ⟨h, _⟩ := h
  obtain ⟨h', hb⟩ := h'
  refine ⟨?_, hb⟩
  clear hb
  generalize Array.toList _ = l at h
  generalize Array.toList _ = l' at h'
  rename_i es _ _ _ _
  induction h generalizing l' with
  | nil => cases h'; exact .nil
  | cons q1 _ ih =>
   cases h' with
   | cons g1 g2 =>
    obtain ⟨⟨k, h2, h3⟩, h4⟩ := q1
    obtain ⟨⟨k', g3, g4⟩, g5⟩ := g1
    exact .cons ⟨⟨k', h2.restrict h1 g3, g4⟩, h4.restrict h1 g5⟩ (ih _ g2)
def below (ρ : Rho) (m : Nat) : Rho := fun b => if b < m then ρ b else none
theorem below_some {ρ : Rho} {m b : Nat} {x : Nat × BL} (h : below ρ m b = some x) : b < m /\ ρ b = some x := by
 unfold below at h
 split at h
 ·exact ⟨by assumption, h⟩
 ·cases h
theorem below_lt {ρ : Rho} {m b : Nat} (h : b < m) : below ρ m b = ρ b := if_pos h
theorem Inv.part {K : Kap} {ρ : Rho} {N m : Nat} {H V : Hp} {w : World} (hi : Inv P ⟨K, ρ, N, H, w⟩) (hV : ∀ b ab, hget b V = some ab -> hget b H = some ab) {s : St} (hs : Inv P s) (hm : s.n = m) (hsV : ∀ b ab, hget b V = some ab -> hget b s.H = some ab) :
  Inv P ⟨K, below ρ m, m, V, w⟩ := by
 have hlt : ∀ b ab, hget b V = some ab -> b < m := fun b ab e => hm ▸ hs.dom (hsV b ab e)
 refine ⟨hi.kok, ⟨?_, ?_⟩, fun b x e => (below_some e).1⟩
 ·intro b ab e
  obtain ⟨c, k, o, h1, h2, h3, h4⟩ := hi.hr.blk b ab (hV b ab e)
  obtain ⟨_, k', o', _, _, _, g4⟩ := hs.hr.blk b ab (hsV b ab e)
  refine ⟨c, k, o, ?_, h2, h3, g4.restrict (fun b' x e' => ?_) h4⟩
  ·show below ρ m b = _
   rw [below_lt (hlt b ab e)]; exact h1
  ·exact below_lt (hm ▸ hs.rdom b' x e')
 ·intro b b' x y c k k' e e' e1 e2
  exact hi.hr.inj b b' x y c k k' (hV _ _ e) (hV _ _ e') (below_some e1).2 (below_some e2).2
theorem frame_ok {K : Kap} {ρ : Rho} {N N' m m' wm wm' n0 : Nat} {H V H' : Hp} {w : World} {t : St} (hi : Inv P ⟨K, ρ, N, H, w⟩) (hN : N <= N') (hm' : m' <= N') (hmm : n0 <= m) (hw : wm <= wm')
  (hV : ∀ b, hget b V = none \/ hget b V = hget b H) (hnew : ∀ b, m <= b -> b < m' -> ρ b = none) (he : Ext P wm' ⟨K, below ρ m, m, V, w⟩ t) (ht : t.n = m')
  (h1 : ∀ b x, hget b t.H = some x -> hget b H' = some x) (h2 : ∀ b, hget b t.H = none -> hget b V = none -> hget b H' = hget b H) (h3 : ∀ b, hget b t.H = none -> hget b V ≠ none -> hget b H' = none) :
  ∃ ρ', Rle ρ ρ' /\ Rle t.ρ ρ' /\ (∀ b, ¬ (m <= b /\ b < m') -> ρ' b = ρ b) /\ Ext0 P wm n0 ⟨K, ρ, N, H, w⟩ ⟨t.K, ρ', N', H', t.w⟩ := by
 have hVs : ∀ b ab, hget b V = some ab -> hget b H = some ab := by
  intro b ab e
  rcases hV b with h | h
  ·rw [h] at e; cases e
  ·exact h.symm.trans e
 have hR : Rle ρ (fun b => if m <= b /\ b < m' then t.ρ b else ρ b) := by
  intro b x e
  dsimp only
  split
  ·rename_i hb
   rw [hnew b hb.1 hb.2] at e
   cases e
  ·exact e
 have hT : Rle t.ρ (fun b => if m <= b /\ b < m' then t.ρ b else ρ b) := by
  intro b x e
  have hlt : b < m' := ht ▸ he.inv.rdom b x e
  dsimp only
  split
  ·exact e
  ·rename_i hb
   have hbm : b < m := by
    rcases Nat.lt_or_ge b m with h | h
    ·exact h
    ·exact absurd ⟨h, hlt⟩ hb
   have := he.rlt b hbm
   rw [this] at e
   exact (below_some e).2
 have hI : ∀ c, Img (below ρ m) V c -> Img ρ H c := by
  rintro c ⟨b, ab, k, e, e'⟩
  exact ⟨b, ab, k, hVs b ab e, (below_some e').2⟩
 obtain ⟨ρ', hd, hR, hT⟩ : ∃ ρ' : Rho, (∀ b, ¬ (m <= b /\ b < m') -> ρ' b = ρ b) /\ Rle ρ ρ' /\ Rle t.ρ ρ' := ⟨_, fun b hb => if_neg hb, hR, hT⟩
 refine ⟨ρ', hR, hT, hd, ?_⟩
 -- what is found in the new memory
 have hc : ∀ b ab, hget b H' = some ab -> hget b t.H = some ab \/ (hget b t.H = none /\ hget b V = none /\ hget b H = some ab) := by
  intro b ab e
  cases e1 : hget b t.H with
  | some x => rw [h1 b x e1] at e; cases e; exact .inl rfl
  | none =>
   cases e2 : hget b V with
   | none => exact .inr ⟨rfl, rfl, (h2 b e1 e2).symm.trans e⟩
   | some y => rw [h3 b e1 (by rw [e2]; simp)] at e; cases e
 have himg : ∀ c, Img ρ' H' c -> Img t.ρ t.H c \/ ∃ b ab k, hget b V = none /\ hget b H = some ab /\ ρ b = some (c, k) := by
  rintro c ⟨b, ab, k, e, e'⟩
  rcases hc b ab e with e1 | ⟨e1, e2, e3⟩
  ·obtain ⟨c', k', o, g1, _⟩ := he.inv.hr.blk b ab e1
   have := hT _ _ g1
   rw [e'] at this
   cases this
   exact .inl ⟨b, ab, k, e1, g1⟩
  ·obtain ⟨c', k', o, g1, _⟩ := hi.hr.blk b ab e3
   have := hR _ _ g1
   rw [e'] at this
   cases this
   exact .inr ⟨b, ab, k, e2, e3, g1⟩
 have hold : ∀ b ab c k, hget b V = none -> hget b H = some ab -> ρ b = some (c, k) -> c < w.heap.size /\ ¬ Img (below ρ m) V c := by
  intro b ab c k e1 e2 e3
  refine ⟨Img.lt hi ⟨b, ab, k, e2, e3⟩, ?_⟩
  rintro ⟨b', ab', k', e4, e5⟩
  have := hi.hr.inj b b' ab ab' c k k' e2 (hVs _ _ e4) e3 (below_some e5).2
  subst this
  rw [e1] at e4
  cases e4
 have hno : ∀ b ab c k b', hget b V = none -> hget b H = some ab -> ρ b = some (c, k) -> ∀ k' ab', hget b' t.H = some ab' -> t.ρ b' = some (c, k') -> False := by
  intro b ab c k b' e1 e2 e3 k' ab' e4 e5
  obtain ⟨q1, q2⟩ := hold b ab c k e1 e2 e3
  rcases he.rnew c ⟨b', ab', k', e4, e5⟩ with h | h
  ·exact absurd q1 (by simpa using h)
  ·exact q2 h
 refine ⟨⟨he.inv.kok, ⟨?_, ?_⟩, ?_⟩, he.kle, hR, ?_, hN, fun c hc' hn => he.frame c hc' (fun h => hn (hI c h)), he.size, he.os, he.tape, he.out, ?_, ?_, ?_, ?_⟩
 ·intro b ab e
  rcases hc b ab e with e1 | ⟨e1, e2, e3⟩
  ·obtain ⟨c, k, o, g1, g2, g3, g4⟩ := he.inv.hr.blk b ab e1
   exact ⟨c, k, o, hT _ _ g1, g2, g3, g4.mono (fun _ _ e => e) hT⟩
  ·obtain ⟨c, k, o, g1, g2, g3, g4⟩ := hi.hr.blk b ab e3
   obtain ⟨q1, q2⟩ := hold b ab c k e2 e3 g1
   refine ⟨c, k, o, hR _ _ g1, ?_, (he.frame c q1 q2).trans g3, g4.mono he.kle hR⟩
   cases e4 : t.K c with
   | none => rfl
   | some a =>
    rcases he.knew c a e4 with h | h | h
    ·have g2' : K c = none := g2
     have h' : K c = some a := h
     rw [g2'] at h'; cases h'
    ·exact absurd q1 (by simpa using h)
    ·exact absurd h q2
 ·intro b b' x y c k k' e e' e1 e2
  have e1 : ρ' b = some (c, k) := e1
  have e2 : ρ' b' = some (c, k') := e2
  rcases hc b x e with f1 | ⟨f1, f2, f3⟩
  ·obtain ⟨c1, k1, _, g1, _⟩ := he.inv.hr.blk b x f1
   have q := hT _ _ g1
   rw [e1] at q
   cases q
   rcases hc b' y e' with j1 | ⟨j1, j2, j3⟩
   ·obtain ⟨c2, k2, _, g2, _⟩ := he.inv.hr.blk b' y j1
    have q := hT _ _ g2
    rw [e2] at q
    cases q
    exact he.inv.hr.inj b b' x y _ _ _ f1 j1 g1 g2
   ·obtain ⟨c2, k2, _, g2, _⟩ := hi.hr.blk b' y j3
    have q := hR _ _ g2
    rw [e2] at q
    cases q
    exact (hno b' y _ _ b j2 j3 g2 _ _ f1 g1).elim
  ·obtain ⟨c1, k1, _, g1, _⟩ := hi.hr.blk b x f3
   have q := hR _ _ g1
   rw [e1] at q
   cases q
   rcases hc b' y e' with j1 | ⟨j1, j2, j3⟩
   ·obtain ⟨c2, k2, _, g2, _⟩ := he.inv.hr.blk b' y j1
    have q := hT _ _ g2
    rw [e2] at q
    cases q
    exact (hno b x _ _ b' f2 f3 g1 _ _ j1 g2).elim
   ·obtain ⟨c2, k2, _, g2, _⟩ := hi.hr.blk b' y j3
    have q := hR _ _ g2
    rw [e2] at q
    cases q
    exact hi.hr.inj b b' x y _ _ _ f3 j3 g1 g2
 ·intro b x e
  have e : ρ' b = some x := e
  show b < N'
  by_cases hb : m <= b /\ b < m'
  ·omega
  ·rw [hd b hb] at e
   have : b < N := hi.rdom b x e
   omega
 ·intro b hb
  exact hd b (by omega)
 ·intro b hb
  cases e1 : hget b t.H with
  | some x =>
   rw [h1 b x e1]
   have := he.wmk b (Nat.lt_of_lt_of_le hb hw)
   rw [e1] at this
   exact (hVs b x this.symm).symm
  | none =>
   have := he.wmk b (Nat.lt_of_lt_of_le hb hw)
   rw [e1] at this
   exact h2 b e1 this.symm
 ·intro b hb e
  have hv : hget b V = none := by
   rcases hV b with h | h
   ·exact h
   ·exact h.trans e
  have e1 := he.sub b (Nat.lt_of_lt_of_le hb hmm) hv
  exact (h2 b e1 hv).trans e
 ·intro c a e
  rcases he.knew c a e with h | h | h
  ·exact .inl h
  ·exact .inr (.inl h)
  ·exact .inr (.inr (hI c h))
 ·intro c h
  rcases himg c h with h | ⟨b, ab, k, _, e2, e3⟩
  ·rcases he.rnew c h with h | h
   ·exact .inl h
   ·exact .inr (hI c h)
  ·exact .inr ⟨b, ab, k, e2, e3⟩
end
end Go.Proofs.YtgaghaggiblabaaGreatDoor.Ev
namespace Go.Proofs.YtgaghaggiblabaaGreatDoor.Ev
open Go.RowKit
def D.see : D -> Nat | .p .. => 0 | .e .. => 0 | .f .. => 0 | .a .. => 1 | .k .. => 2
def D.wr : D -> Bool | .a _ _ w _ _ _ => w | .k _ _ w _ _ _ => w | _ => false
def D.al : D -> Bool | .p .. => false | .e .. => true | .f .. => true | .a _ _ _ al _ _ => al | .k _ _ w _ _ _ => w
def D.ins : D -> I | .p _ _ i => i | .e _ _ i => i | .f _ _ i => i | .a _ _ _ _ _ i => i | .k _ _ _ _ _ i => i
def D.ps : D -> List O | .k _ _ _ ps _ _ => ps | _ => []
def D.hd : D -> List O | .k _ _ _ _ hd _ => hd | _ => []
def D.un : D -> List Nat | .a _ _ _ _ un _ => un | _ => []
structure Stp where
 T : Tm
 n : Nat
 H : Hp
 V : Hp
 R : Hp
 V' : Hp
 v : AV
section
variable {P : PX} {N : Fr} {wm : Nat} {rec : Rec} {mi : I -> Oper -> Prop} {ops : Array Oper}
structure DOk (P : PX) (N : Nat) (mi : I -> Oper -> Prop) (ops : Array Oper) (d : D) (o : Oper) : Prop where
 dst : o.dst = ddst d
 lt : ∀ x, ddst d = some x -> x < N
 ins : mi d.ins o
 guard : match dgd d with
  | none => o.guard = none
  | some q => ∃ j, o.guard = some (j, q.2) /\ (ops[j]?).bind (·.dst) = some q.1 /\ q.1 < N
def Sm (P : PX) (N : Fr) (T : Tm) (n : Nat) (H : Hp) : Prop := ∃ s a, Inv P s /\ s.n = n /\ s.H = H /\ TR P s.K s.ρ N T a
def Go (P : PX) (N : Fr) (wm : Nat) (d : D) (o : Oper) (T : Tm) (n : Nat) (V : Hp) (r : AV × Nat × Hp) : Prop :=
 ∀ (s : St) (T' : Tm) (a : Act), s.n = n -> s.H = V -> Inv P s -> (∀ i, i ∈ uI d.ins -> lk i T' = lk i T) -> TR P s.K s.ρ N T' a -> OpW P o a s (if d.wr = true then wm else n) id3 r
structure See (rng : Nat -> Nat × Nat) (d : D) (T : Tm) (V : Hp) : Prop where
 see0 : d.see = 0 -> ∀ b, hget b V = none
 see1 : d.see = 1 -> ∀ u, u ∈ d.un -> ∀ b, (rng u).1 <= b -> b < (rng u).2 -> hget b V = none
 see2 : d.see = 2 -> ∀ b, hget b V ≠ none -> ∃ z, z ∈ d.ps /\ blkOf (ev T z) = some b
 hd2 : d.see = 2 -> ∀ z, z ∈ d.hd -> ∀ b, blkOf (ev T z) = some b -> hget b V = none
structure SF (P : PX) (N : Fr) (wm : Nat) (rng : Nat -> Nat × Nat) (d : D) (o : Oper) (x y : Stp) : Prop where
 sem : Sm P N x.T x.n x.H
 part : Part x.H x.V x.R
 T : y.T = dput (ddst d) x.v x.T
 n : x.n <= y.n
 H : ∀ b, hget b y.H = (hget b x.V').or (hget b x.R)
 sub : ∀ b, b < x.n -> hget b x.V = none -> hget b x.V' = none
 top : ∀ b, hget b x.V' ≠ none -> b < y.n
 ro : d.wr = false -> ∀ b, b < x.n -> hget b x.V' = hget b x.V
 nal : d.al = false -> y.n = x.n
 see : See rng d x.T x.V
 go : (∃ q c, dgd d = some q /\ lk q.1 x.T = .bool c /\ (c == q.2) = false /\ x.v = .top /\ y.n = x.n /\ (∀ b, hget b x.V' = none) /\ (∀ b, hget b x.V = none)) \/
  ((∀ q, dgd d = some q -> ∃ c, lk q.1 x.T = .bool c /\ (c == q.2) = true) /\ Go P N wm d o x.T x.n x.V (x.v, y.n, x.V'))
theorem Part.symm {H V R : Hp} (h : Part H V R) : Part H R V := by
 intro b
 rcases h b with ⟨h1, h2⟩ | ⟨h1, h2⟩
 ·exact .inr ⟨h2, h1⟩
 ·exact .inl ⟨h2, h1⟩
theorem OpW.ex {o : Oper} {a : Act} {s : St} {r : AV × Nat × Hp} (h : OpW P o a s wm id3 r) : ∃ u t, VR P t.K t.ρ r.1 u /\ Ext P wm s t /\ t.n = r.2.1 /\ t.H = r.2.2 := by
 have h1 := h none (fun _ _ _ => False) (fun _ _ => ∃ u t, VR P t.K t.ρ r.1 u /\ Ext P wm s t /\ t.n = r.2.1 /\ t.H = r.2.2) (by
  intro v av t hv he hk
  cases hk
  exact ⟨v, t, hv, he, rfl, rfl⟩)
 have h1 := h1.2
 generalize (o.semAt (Fw none).round a.eval).run P s.w = q at h1
 cases q with
 | ok n w' =>
  cases n <;> simp only [Oper.uponIn] at h1 <;> first | exact h1 | skip
  ·obtain ⟨e, w2, fr, he, _⟩ := h1.2.2 [] (room_wide _)
   cases e with
   | returned v => exact he
   | panicked c => exact he.elim
   | outgrown => obtain ⟨_, _, h⟩ := he; exact h.elim
  all_goals first
   | (obtain ⟨_, _, he, _⟩ := h1.2 (Frame.enter P 0 #[] .normal) [] (room_wide _); exact he)
   | skip
  ·obtain ⟨e, w2, he, _⟩ := h1.2.2 (Frame.enter P 0 #[] .normal) [] (room_wide _)
   cases e with
   | returned v => exact he
   | panicked c => exact he.elim
   | outgrown => obtain ⟨_, _, h⟩ := he; exact h.elim
 | halt x w' => cases x <;> simp only [Oper.uponIn] at h1
theorem lk_dput (i : Nat) (d : Option Nat) (v : AV) (T : Tm) : lk i (dput d v T) = if d = some i then v else lk i T := by
 cases d with
 | none => simp [dput]
 | some d => show lk i ((d, v) :: T) = _; rw [lk_cons]; simp
theorem TR.dput {K : Kap} {ρ : Rho} {T : Tm} {a : Act} (h : TR P K ρ N T a) {d : Option Nat} (hd : ∀ x, d = some x -> x < N.n) {v : AV} {u : Value} (hv : VR P K ρ v u) : TR P K ρ N (Ev.dput d v T) (a.put d u) := by
 cases d with
 | none => exact h
 | some d => exact h.put (hd d rfl) hv
theorem ite_wm {w : Bool} {n : Nat} : (Bool.rec n wm w : Nat) = if w = true then wm else n := by cases w <;> rfl
theorem dop_ok (hty : TyOk P) (hmi : OpOk P N rec mi) {d : D} {o : Oper} (ho : DOk P N.n mi ops d o) {L : List (Nat × Nat)} {T : Tm} {n : Nat} {H : Hp} {k : Tm -> Nat -> Hp -> Out} {r : AV × Nat × Hp} (hw : wm <= n) (h : dop rec wm d L T n H k = some r) :
  ∃ V R V' v n' H', Part H V R /\ k (dput (ddst d) v T) n' H' = some r /\ ((∀ b, b < n -> hget b V = none -> hget b V' = none) -> (∀ b, hget b V' ≠ none -> b < n') -> ∀ b, hget b H' = (hget b V').or (hget b R)) /\
   Go P N wm d o T n V (v, n', V') /\ (d.al = false -> n' = n) /\ See (nthR L) d T V := by
 have go0 : ∀ {i : I} {wm' : Nat} {V : Hp} {q : AV × Nat × Hp}, d.ins = i -> (if d.wr = true then wm else n) = wm' -> evI i rec T wm' n V id3 = some q -> Go P N wm d o T n V q := by
  rintro i wm' V q rfl rfl hq s T' a rfl rfl hi hT ht
  refine hmi d.ins o a s T' _ id3 q ho.ins hi ?_ ht ?_
  ·split
   ·exact hw
   ·exact Nat.le_refl _
  ·rw [evI_congr hT]
   exact hq
 cases d with
 | p g x i =>
  replace h : (match evI i rec T n n [] id3 with | some r => Bool.rec none (k (dput x r.1 T) n H) (Nat.beq r.2.1 n) | none => none) = some r := h
  split at h
  ·rename_i q hq
   obtain ⟨h1, h⟩ := brec_some h
   have hn := beq_true.1 h1
   refine ⟨[], H, q.2.2, q.1, q.2.1, H, .none H, by rw [hn]; exact h, ?_, go0 (i := i) rfl rfl hq, fun _ => hn, ⟨fun _ b => rfl, fun e => (by cases e), fun e => (by cases e), fun e => (by cases e)⟩⟩
   intro h1 h2 b
   have : hget b q.2.2 = none := by
    cases e : hget b q.2.2 with
    | none => rfl
    | some x =>
     have h3 := h2 b (by rw [e]; simp)
     rw [hn] at h3
     rw [h1 b h3 rfl] at e
     cases e
   rw [this]
   rfl
  ·cases h
 | e g x i =>
  replace h : (match evI i rec T n n [] id3 with | some r => k (dput x r.1 T) r.2.1 (happ r.2.2 H) | none => none) = some r := h
  split at h
  ·rename_i q hq
   exact ⟨[], H, q.2.2, q.1, q.2.1, _, .none H, h, fun _ _ b => hget_happ b _ _, go0 (i := i) rfl rfl hq, fun e => (by cases e), ⟨fun _ b => rfl, fun e => (by cases e), fun e => (by cases e), fun e => (by cases e)⟩⟩
  ·cases h
 | f g x i =>
  replace h : (match evI i rec T n n [] id3 with | some r => (match frz n r.2.2 r.1 (fun v G => some (v, r.2.1, G)) with | some q => k (dput (some x) q.1 T) q.2.1 (happ q.2.2 H) | none => none) | none => none) = some r := h
  split at h
  ·rename_i q hq
   split at h
   ·rename_i q2 hq2
    refine ⟨[], H, q2.2.2, q2.1, q2.2.1, _, .none H, h, fun _ _ b => hget_happ b _ _, ?_, fun e => (by cases e), ⟨fun _ b => rfl, fun e => (by cases e), fun e => (by cases e), fun e => (by cases e)⟩⟩
    have hgo := go0 (i := i) rfl rfl hq
    intro s T' a h1 h2 hi hT ht ro Q next hnext
    refine hgo s T' a h1 h2 hi hT ht ro Q next ?_
    intro v av t hv he hk
    cases hk
    have htr : TR P t.K t.ρ ⟨1, []⟩ [(0, av)] { tmps := #[v], defers := [] } := by
     refine ⟨rfl, rfl, fun i => ?_⟩
     rw [lk_cons]
     split
     ·rename_i e
      subst e
      exact hv
     ·exact .mkTop _
    have hl : lk 0 [(0, av)] = av := by rw [lk_cons, if_pos rfl]
    have hq2' : frz n t.H (lk 0 [(0, av)]) (fun v G => some (v, t.n, G)) = some q2 := by rw [hl]; exact hq2
    obtain ⟨v', t', e1, e2, e3, e4, e5⟩ := frz_ok hty he.inv htr hq2'
    have hv' := e2.at_ 0
    rw [lk_cons, if_pos rfl] at hv'
    have := hnext v v' t' hv' (he.trans e1) (by rw [e4]; exact e3)
    rw [e5] at this
    exact this
   ·cases h
  ·cases h
 | a g x w al un i =>
  replace h : unh L un H (fun A V => match evI i rec T (Bool.rec n wm w) n V id3 with | some r => Bool.rec none (k (dput x r.1 T) r.2.1 (happ r.2.2 A)) (okb al n r.2.1) | none => none) = some r := h
  obtain ⟨A, V, h1, h2, h3, h4⟩ := unh_ok h
  split at h2
  ·rename_i q hq
   obtain ⟨h5, h2⟩ := brec_some h2
   refine ⟨V, A, q.2.2, q.1, q.2.1, _, h1, h2, fun _ _ b => hget_happ b _ _, go0 (i := i) rfl ite_wm.symm hq, ?_, ⟨fun e => (by cases e), fun _ u hu b => h3 u b hu, fun e => (by cases e), fun e => (by cases e)⟩⟩
   intro e
   change al = false at e
   subst e
   exact beq_true.1 h5
  ·cases h2
 | k g x w ps hd i =>
  replace h : hide T hd H (fun A H => hide T ps H fun B H => match evI i rec T (Bool.rec n wm w) n B id3 with | some r => Bool.rec none (k (dput x r.1 T) r.2.1 (happ r.2.2 (happ H A))) (okb w n r.2.1) | none => none) = some r := h
  obtain ⟨A, R1, h1, h2, h3, h4⟩ := hide_ok h
  obtain ⟨V, R2, g1, g2, g3, g4⟩ := hide_ok h2
  split at g2
  ·rename_i q hq
   obtain ⟨h5, g2⟩ := brec_some g2
   refine ⟨V, happ R2 A, q.2.2, q.1, q.2.1, _, h1.symm.trans g1, g2, fun _ _ b => hget_happ b _ _, go0 (i := i) rfl ite_wm.symm hq, ?_, ⟨fun e => (by cases e), fun e => (by cases e), fun _ b hb => g3 b hb, ?_⟩⟩
   ·intro e
    change w = false at e
    subst e
    exact beq_true.1 h5
   ·intro _ z hz b hb
    have e := h4 z b hz hb
    rcases g1 b with ⟨e1, _⟩ | ⟨e1, _⟩
    ·exact e1.trans e
    ·exact e1
  ·cases g2
theorem below_all {s : St} (h : Inv P s) : below s.ρ s.n = s.ρ := by
 funext b
 unfold below
 split
 ·rfl
 ·rename_i hb
  cases e : s.ρ b with
  | none => rfl
  | some x => exact absurd (h.rdom b x e) hb
theorem dstep_ok {d : D} {o : Oper} (ho : DOk P N.n mi ops d o) {L : List (Nat × Nat)} {T : Tm} {n n' : Nat} {H V R V' H' : Hp} {v : AV} (hw : wm <= n) (hs : Sm P N T n H) (h1 : Part H V R)
  (h2 : (∀ b, b < n -> hget b V = none -> hget b V' = none) -> (∀ b, hget b V' ≠ none -> b < n') -> ∀ b, hget b H' = (hget b V').or (hget b R)) (h3 : Go P N wm d o T n V (v, n', V')) :
  n <= n' /\ (∀ b, hget b H' = (hget b V').or (hget b R)) /\ (∀ b, b < n -> hget b V = none -> hget b V' = none) /\ (∀ b, hget b V' ≠ none -> b < n') /\ (d.wr = false -> ∀ b, b < n -> hget b V' = hget b V) /\ Sm P N (dput (ddst d) v T) n' H' := by
 obtain ⟨s, a, hi, rfl, rfl, ht⟩ := hs
 have hVH : ∀ b ab, hget b V = some ab -> hget b s.H = some ab := by
  intro b ab e
  rcases h1 b with ⟨e1, _⟩ | ⟨e1, _⟩
  ·exact e1.symm.trans e
  ·rw [e1] at e; cases e
 have hi' := Inv.part (K := s.K) (N := s.n) (H := s.H) (w := s.w) (V := V) (m := s.n) hi hVH hi rfl hVH
 rw [below_all hi] at hi'
 have hop := h3 ⟨s.K, s.ρ, s.n, V, s.w⟩ T a rfl rfl hi' (fun _ _ => rfl) ht
 obtain ⟨u, t, q1, q2, q3, q4⟩ := hop.ex
 have q3 : t.n = n' := q3
 have q4 : t.H = V' := q4
 have hsub : ∀ b, b < s.n -> hget b V = none -> hget b V' = none := fun b hb e => by rw [<- q4]; exact q2.sub b hb e
 have htop : ∀ b, hget b V' ≠ none -> b < n' := by
  intro b hb
  rw [<- q4] at hb
  cases e : hget b t.H with
  | none => exact absurd e hb
  | some ab => rw [<- q3]; exact q2.inv.dom e
 have hH := h2 hsub htop
 refine ⟨by rw [<- q3]; exact q2.nle, hH, hsub, htop, ?_, ?_⟩
 ·intro hwr b hb
  rw [hwr] at q2
  rw [<- q4]
  exact q2.wmk b hb
 ·have q2' : Ext P (if d.wr = true then wm else s.n) ⟨s.K, below s.ρ s.n, s.n, V, s.w⟩ t := by rw [below_all hi]; exact q2
  obtain ⟨ρ', p1, p2, p3, p4⟩ := frame_ok (P := P) (K := s.K) (ρ := s.ρ) (N := s.n) (N' := n') (m := s.n) (m' := n') (wm := wm) (n0 := s.n) (H := s.H) (V := V) (H' := H') (w := s.w) (t := t) hi (by rw [<- q3]; exact q2.nle) (Nat.le_refl _) (Nat.le_refl _)
   (by split; exact Nat.le_refl _; exact hw) (fun b => by
    rcases h1 b with ⟨e1, _⟩ | ⟨e1, _⟩
    ·exact .inr e1
    ·exact .inl e1) (fun b hb _ => by
    cases e : s.ρ b with
    | none => rfl
    | some x => have := hi.rdom b x e; omega) q2' q3 (fun b x e => by rw [q4] at e; rw [hH, e]; rfl) (fun b e e' => by
    rw [q4] at e
    rw [hH, e]
    rcases h1 b with ⟨e1, e2⟩ | ⟨e1, e2⟩
    ·rw [e2, <- e1, e']; rfl
    ·rw [e2]; rfl) (fun b e e' => by
    rw [q4] at e
    rw [hH, e]
    rcases h1 b with ⟨e1, e2⟩ | ⟨e1, e2⟩
    ·rw [e2]; rfl
    ·exact absurd e1 e')
  exact ⟨_, _, p4.inv, rfl, rfl, (ht.mono p4.kle p1).dput ho.lt (q1.mono (fun _ _ e => e) p2)⟩
noncomputable def rng (F : Nat -> Stp) (L : List (Nat × Nat)) (i u : Nat) : Nat × Nat := if u < i then ((F (i - 1 - u)).n, (F (i - u)).n) else nthR L (u - i)
theorem ds_run (hty : TyOk P) (hmi : OpOk P N rec mi) {k : Tm -> Nat -> Hp -> Out} {r : AV × Nat × Hp} : ∀ {is : List D} {os : List Oper} {L : List (Nat × Nat)} {T : Tm} {n : Nat} {H : Hp}, All2 (DOk P N.n mi ops) is os -> Sm P N T n H -> wm <= n ->
  ds rec wm is L T n H k = some r -> ∃ F : Nat -> Stp, (F 0).T = T /\ (F 0).n = n /\ (F 0).H = H /\ (∀ i d o, is[i]? = some d -> os[i]? = some o -> SF P N wm (rng F L i) d o (F i) (F (i + 1))) /\
   Sm P N (F is.length).T (F is.length).n (F is.length).H /\ k (F is.length).T (F is.length).n (F is.length).H = some r := by
 intro is
 induction is with
 | nil =>
  intro os L T n H h hs hw hk
  exact ⟨fun _ => ⟨T, n, H, [], [], [], .top⟩, rfl, rfl, rfl, fun i d o e => by simp at e, hs, hk⟩
 | cons d is ih =>
  intro os L T n H h hs hw hk
  cases h with
  | cons ho hos =>
   rename_i o os
   -- one operation, then the others
   have key : ∀ {V R V' H' : Hp} {v : AV} {n' : Nat}, Sm P N (dput (ddst d) v T) n' H' -> n <= n' -> ds rec wm is ((n, n') :: L) (dput (ddst d) v T) n' H' k = some r ->
     (∀ y : Stp, y.T = dput (ddst d) v T -> y.n = n' -> y.H = H' -> SF P N wm (nthR L) d o ⟨T, n, H, V, R, V', v⟩ y) ->
     ∃ F : Nat -> Stp, (F 0).T = T /\ (F 0).n = n /\ (F 0).H = H /\ (∀ i e o', (d :: is)[i]? = some e -> (o :: os)[i]? = some o' -> SF P N wm (rng F L i) e o' (F i) (F (i + 1))) /\
      Sm P N (F (d :: is).length).T (F (d :: is).length).n (F (d :: is).length).H /\ k (F (d :: is).length).T (F (d :: is).length).n (F (d :: is).length).H = some r := by
    intro V R V' H' v n' hs' hn hk' hy
    obtain ⟨F, f1, f2, f3, f4, f5, f6⟩ := ih hos hs' (Nat.le_trans hw hn) hk'
    refine ⟨fun i => Nat.casesOn i ⟨T, n, H, V, R, V', v⟩ F, rfl, rfl, rfl, ?_, f5, f6⟩
    intro i e o' hi ho'
    cases i with
    | zero =>
     simp at hi ho'
     subst hi ho'
     have := hy (F 0) f1 f2 f3
     have hr : rng (fun i => Nat.casesOn i ⟨T, n, H, V, R, V', v⟩ F) L 0 = nthR L := by
      funext u
      simp [rng]
     rw [hr]
     exact this
    | succ i =>
     have := f4 i e o' (by simpa using hi) (by simpa using ho')
     have hr : rng (fun i => Nat.casesOn i ⟨T, n, H, V, R, V', v⟩ F) L (i + 1) = rng F ((n, n') :: L) i := by
      funext u
      unfold rng
      by_cases h1 : u < i
      ·obtain ⟨m, rfl⟩ : ∃ m, i = u + 1 + m := ⟨i - (u + 1), by omega⟩
       rw [if_pos h1, if_pos (by omega)]
       have e1 : u + 1 + m + 1 - 1 - u = m + 1 := by omega
       have e2 : u + 1 + m + 1 - u = m + 1 + 1 := by omega
       have e3 : u + 1 + m - 1 - u = m := by omega
       have e4 : u + 1 + m - u = m + 1 := by omega
       rw [e1, e2, e3, e4]
      ·by_cases h2 : u = i
       ·subst h2
        rw [if_pos (by omega), if_neg (by omega)]
        have e1 : u + 1 - 1 - u = 0 := by omega
        have e2 : u + 1 - u = 0 + 1 := by omega
        rw [e1, e2, Nat.sub_self, nthR_eq]
        show ((_ : Nat), (F 0).n) = _
        rw [f2]
        rfl
       ·rw [if_neg (by omega), if_neg (by omega)]
        obtain ⟨m, rfl⟩ : ∃ m, u = i + 1 + m := ⟨u - (i + 1), by omega⟩
        have e1 : i + 1 + m - (i + 1) = m := by omega
        have e2 : i + 1 + m - i = m + 1 := by omega
        rw [e1, e2, nthR_eq, nthR_eq]
        simp
     rw [hr]
     exact this
   have run : (∀ q, dgd d = some q -> ∃ c, lk q.1 T = .bool c /\ (c == q.2) = true) -> dop rec wm d L T n H (fun T n' H => ds rec wm is ((n, n') :: L) T n' H k) = some r ->
     ∃ F : Nat -> Stp, (F 0).T = T /\ (F 0).n = n /\ (F 0).H = H /\ (∀ i e o', (d :: is)[i]? = some e -> (o :: os)[i]? = some o' -> SF P N wm (rng F L i) e o' (F i) (F (i + 1))) /\
      Sm P N (F (d :: is).length).T (F (d :: is).length).n (F (d :: is).length).H /\ k (F (d :: is).length).T (F (d :: is).length).n (F (d :: is).length).H = some r := by
    intro hg hk'
    obtain ⟨V, R, V', v, n', H', g1, g2, g3, g4, g5, g6⟩ := dop_ok hty hmi ho hw hk'
    obtain ⟨p1, p2, p3, p4, p5, p6⟩ := dstep_ok ho (L := L) hw hs g1 g3 g4
    refine key (V := V) (R := R) (V' := V') p6 p1 g2 ?_
    rintro ⟨yT, yn, yH, _, _, _, _⟩ rfl rfl rfl
    exact ⟨hs, g1, rfl, p1, p2, p3, p4, p5, g5, g6, .inr ⟨hg, g4⟩⟩
   cases hg : dgd d with
   | none =>
    have hk' : dop rec wm d L T n H (fun T n' H => ds rec wm is ((n, n') :: L) T n' H k) = some r := by
     have : (match dgd d with
      | none => dop rec wm d L T n H fun T n' H => ds rec wm is ((n, n') :: L) T n' H k
      | some q => (match lk q.1 T with | .bool c => Bool.rec (ds rec wm is ((n, n) :: L) (dput (ddst d) .top T) n H k) (dop rec wm d L T n H fun T n' H => ds rec wm is ((n, n') :: L) T n' H k) (Bool.rec (not' c) c q.2) | _ => none)) = some r := hk
     rw [hg] at this
     exact this
    exact run (fun q e => by rw [hg] at e; cases e) hk'
   | some q =>
    have hk' : (match lk q.1 T with | .bool c => Bool.rec (ds rec wm is ((n, n) :: L) (dput (ddst d) .top T) n H k) (dop rec wm d L T n H fun T n' H => ds rec wm is ((n, n') :: L) T n' H k) (Bool.rec (not' c) c q.2) | _ => none) = some r := by
     have : (match dgd d with
      | none => dop rec wm d L T n H fun T n' H => ds rec wm is ((n, n') :: L) T n' H k
      | some q => (match lk q.1 T with | .bool c => Bool.rec (ds rec wm is ((n, n) :: L) (dput (ddst d) .top T) n H k) (dop rec wm d L T n H fun T n' H => ds rec wm is ((n, n') :: L) T n' H k) (Bool.rec (not' c) c q.2) | _ => none)) = some r := hk
     rw [hg] at this
     exact this
    split at hk'
    ·rename_i c hc
     have hcw : (Bool.rec (not' c) c q.2 : Bool) = (c == q.2) := by
      generalize q.2 = w
      cases c <;> cases w <;> rfl
     rw [hcw] at hk'
     cases hb : (c == q.2) with
     | true =>
      rw [hb] at hk'
      refine run (fun q' e => ?_) hk'
      rw [hg] at e
      cases e
      exact ⟨c, hc, hb⟩
     | false =>
      rw [hb] at hk'
      have hs' : Sm P N (dput (ddst d) .top T) n H := by
       obtain ⟨s, a, hi, e1, e2, ht⟩ := hs
       exact ⟨s, a.put (ddst d) undef, hi, e1, e2, ht.dput ho.lt (.mkTop _)⟩
      refine key (V := []) (R := H) (V' := []) hs' (Nat.le_refl _) hk' ?_
      rintro ⟨yT, yn, yH, _, _, _, _⟩ rfl e1 e2
      have e1 : yn = n := e1
      have e2 : yH = H := e2
      subst e1 e2
      refine ⟨hs, .none _, rfl, Nat.le_refl _, fun b => rfl, fun _ _ _ => rfl, fun b h => absurd rfl h, fun _ _ _ => rfl, fun _ => rfl, ⟨fun _ _ => rfl, fun _ _ _ _ _ _ => rfl, fun _ b h => absurd rfl h, fun _ _ _ _ _ => rfl⟩, .inl ⟨q, c, hg, hc, hb, rfl, rfl, fun _ => rfl, fun _ => rfl⟩⟩
    ·cases hk'
end
end Go.Proofs.YtgaghaggiblabaaGreatDoor.Ev
namespace Go.Proofs.YtgaghaggiblabaaGreatDoor.Ev
open Go.RowKit
section
variable {P : PX} {N : Fr} {wm : Nat} {rec : Rec} {mi : I -> Oper -> Prop} {ops : Array Oper}
noncomputable def D.us (d : D) : List Nat := uI d.ins ++ (match dgd d with | none => [] | some q => [q.1]) ++ uOs d.ps
inductive Anc (ops : Array Oper) : Nat -> Nat -> Prop
 | one {i j o e} : ops[j]? = some o -> e ∈ o.after -> Region.binds .any e = true -> e.on = i -> Anc ops i j
 | step {i k j} : Anc ops i k -> Anc ops k j -> Anc ops i j
structure Okp (u : Nat) (x y : D) : Prop where
 d1 : ∀ t, ddst x = some t -> t ∉ y.us
 d2 : ∀ t, ddst x = some t -> ddst y ≠ some t
 d3 : ∀ t, ddst y = some t -> t ∉ x.us
 wr : x.wr = true \/ y.wr = true -> x.see = 0 \/ y.see = 0 \/ (x.see = 2 /\ y.see = 2 /\ ∀ z, z ∈ x.ps -> z ∈ y.hd)
 al : x.al = true -> y.see = 1 -> u ∈ y.un
structure DStat (ops : Array Oper) (is : List D) : Prop where
 len : is.length = ops.size
 back : ∀ j o e, ops[j]? = some o -> e ∈ o.after -> Region.binds .any e = true -> e.on < j
 war : ∀ (i j : Nat) (x y : D), i <= j -> is[i]? = some x -> is[j]? = some y -> ∀ t, ddst y = some t -> t ∉ uOs x.ps
 pair : ∀ (i j : Nat) (x y : D), i < j -> is[i]? = some x -> is[j]? = some y -> Anc ops i j \/ Okp (j - 1 - i) x y
 psk : ∀ (i : Nat) (x : D) (z : O) (v : AV), is[i]? = some x -> z ∈ x.ps -> z = .c v -> blkOf v = none
section
variable (F : Nat -> Stp) (is : List D)
noncomputable def TSf (S : Nat -> Bool) : Nat -> Tm
 | 0 => (F 0).T
 | m + 1 => match is[m]? with
  | some d => if S m = true then dput (ddst d) (F m).v (TSf S m) else TSf S m
  | none => TSf S m
def Tch (b k : Nat) : Prop := hget b (F k).H ≠ hget b (F (k + 1)).H
open Classical in
noncomputable def CS (S : Nat -> Bool) (b : Nat) : Nat -> Option AB
 | 0 => hget b (F 0).H
 | m + 1 => if S m = true /\ Tch F b m then hget b (F (m + 1)).H else CS S b m
end
variable {F : Nat -> Stp} {is : List D} {os : List Oper}
structure Chain (P : PX) (N : Fr) (wm : Nat) (mi : I -> Oper -> Prop) (F : Nat -> Stp) (is : List D) (ops : Array Oper) : Prop where
 sf : ∀ i d, is[i]? = some d -> ∃ o, ops[i]? = some o /\ DOk P N.n mi ops d o /\ SF P N wm (rng F [] i) d o (F i) (F (i + 1))
theorem TSf_at {i j : Nat} (hT : ∀ k d, is[k]? = some d -> (F (k + 1)).T = dput (ddst d) (F k).v (F k).T) {S : Nat -> Bool} : ∀ m, m <= is.length -> (∀ k d, k < m -> is[k]? = some d -> ddst d = some i -> (S k = true ↔ k < j)) ->
  lk i (TSf F is S m) = lk i (F (min j m)).T := by
 intro m
 induction m with
 | zero => intro _ _; simp [TSf]
 | succ m ih =>
  intro hm h
  obtain ⟨d, hd⟩ : ∃ d, is[m]? = some d := ⟨is[m], List.getElem?_eq_getElem (by omega)⟩
  have ih := ih (by omega) (fun k d hk => h k d (by omega))
  have hTm := hT m d hd
  have hS := h m d (by omega) hd
  rw [TSf, hd]
  dsimp only
  by_cases hdi : ddst d = some i
  ·have hS := hS hdi
   by_cases hj : m < j
   ·rw [if_pos (hS.2 hj), lk_dput, if_pos hdi, Nat.min_eq_right (by omega), hTm, lk_dput, if_pos hdi]
   ·have : S m ≠ true := fun e => hj (hS.1 e)
    rw [if_neg this, ih, Nat.min_eq_left (by omega), Nat.min_eq_left (by omega)]
  ·have e : lk i (if S m = true then dput (ddst d) (F m).v (TSf F is S m) else TSf F is S m) = lk i (TSf F is S m) := by
    split
    ·rw [lk_dput, if_neg hdi]
    ·rfl
   rw [e, ih]
   by_cases hj : m < j
   ·rw [Nat.min_eq_right (by omega), Nat.min_eq_right (by omega), hTm, lk_dput, if_neg hdi]
   ·rw [Nat.min_eq_left (by omega), Nat.min_eq_left (by omega)]
theorem CS_at {b j : Nat} {S : Nat -> Bool} : ∀ m, (∀ k, k < m -> Tch F b k -> (S k = true ↔ k < j)) -> CS F S b m = hget b (F (min j m)).H := by
 intro m
 induction m with
 | zero => intro _; simp [CS]
 | succ m ih =>
  intro h
  have ih := ih (fun k hk => h k (by omega))
  rw [CS]
  by_cases ht : Tch F b m
  ·have hS := h m (by omega) ht
   by_cases hj : m < j
   ·rw [if_pos ⟨hS.2 hj, ht⟩, Nat.min_eq_right (by omega)]
   ·rw [if_neg (fun e => hj (hS.1 e.1)), ih, Nat.min_eq_left (by omega), Nat.min_eq_left (by omega)]
  ·rw [if_neg (fun e => ht e.2), ih]
   by_cases hj : m < j
   ·rw [Nat.min_eq_right (by omega), Nat.min_eq_right (by omega)]
    exact Classical.not_not.1 ht
   ·rw [Nat.min_eq_left (by omega), Nat.min_eq_left (by omega)]
section
variable {S S' : Nat -> Bool} {j : Nat} (hS : ∀ k, S' k = if k = j then true else S k) (hj : S j = false)
include hS hj
theorem TSf_ins {d : D} (hd : is[j]? = some d) {i : Nat} (h : ddst d = some i -> ∀ k e, j < k -> is[k]? = some e -> S k = true -> ddst e ≠ some i) : ∀ m, lk i (TSf F is S' m) = if j < m /\ ddst d = some i then (F j).v else lk i (TSf F is S m) := by
 intro m
 induction m with
 | zero => simp [TSf]
 | succ m ih =>
  rw [TSf, TSf]
  by_cases hm : m = j
  ·subst hm
   rw [hd]
   dsimp only
   have e1 : S' m = true := by rw [hS m, if_pos rfl]
   have e2 : ¬ S m = true := by rw [hj]; simp
   rw [if_pos e1, if_neg e2, lk_dput, ih]
   by_cases hdi : ddst d = some i
   ·rw [if_pos hdi, if_pos ⟨Nat.lt_succ_self _, hdi⟩]
   ·rw [if_neg hdi, if_neg (c := m < m /\ _) (fun e => hdi e.2), if_neg (c := m < m + 1 /\ _) (fun e => hdi e.2)]
  ·rw [hS m, if_neg hm]
   cases he : is[m]? with
   | none =>
    dsimp only
    rw [ih]
    have hlt := List.getElem?_eq_none_iff.1 he
    have hjl := (List.getElem?_eq_some_iff.1 hd).1
    by_cases hdi : ddst d = some i
    ·rw [if_pos ⟨by omega, hdi⟩, if_pos ⟨by omega, hdi⟩]
    ·rw [if_neg (fun e => hdi e.2), if_neg (fun e => hdi e.2)]
   | some e =>
    dsimp only
    by_cases hs : S m = true
    ·rw [if_pos hs, if_pos hs, lk_dput, lk_dput, ih]
     by_cases hdi : ddst d = some i
     ·by_cases hlt : j < m
      ·have := h hdi m e hlt he hs
       rw [if_neg this, if_pos ⟨hlt, hdi⟩, if_pos ⟨by omega, hdi⟩]
      ·rw [if_neg (c := j < m /\ _) (fun e => hlt e.1), if_neg (c := j < m + 1 /\ _) (fun e => by have := e.1; omega)]
     ·rw [if_neg (c := j < m /\ _) (fun e => hdi e.2), if_neg (c := j < m + 1 /\ _) (fun e => hdi e.2)]
    ·rw [if_neg hs, if_neg hs, ih]
     by_cases hlt : j < m
     ·by_cases hdi : ddst d = some i
      ·rw [if_pos ⟨hlt, hdi⟩, if_pos ⟨by omega, hdi⟩]
      ·rw [if_neg (fun e => hdi e.2), if_neg (fun e => hdi e.2)]
     ·rw [if_neg (fun e => hlt e.1), if_neg (fun e => by have := e.1; omega)]
theorem CS_ins {b : Nat} (h : Tch F b j -> ∀ k, j < k -> S k = true -> ¬ Tch F b k) : ∀ m, (¬ Tch F b j -> CS F S' b m = CS F S b m) /\ (Tch F b j -> CS F S' b m = if j < m then hget b (F (j + 1)).H else CS F S b m) := by
 intro m
 induction m with
 | zero => simp [CS]
 | succ m ih =>
  obtain ⟨ih1, ih2⟩ := ih
  refine ⟨fun ht => ?_, fun ht => ?_⟩
  ·rw [CS, CS, ih1 ht]
   by_cases hm : m = j
   ·subst hm
    rw [if_neg (fun e => ht e.2), if_neg (fun e => ht e.2)]
   ·rw [hS m, if_neg hm]
  ·rw [CS, CS, ih2 ht]
   by_cases hm : m = j
   ·subst hm
    rw [if_pos ⟨by rw [hS m, if_pos rfl], ht⟩, if_pos (Nat.lt_succ_self _)]
   ·rw [hS m, if_neg hm]
    by_cases hlt : j < m
    ·rw [if_neg (fun e => h ht m hlt e.1 e.2), if_pos hlt, if_pos (by omega)]
    ·rw [if_neg (c := j < m) hlt, if_neg (c := j < m + 1) (by omega)]
end
def unl (S : Nat -> Bool) : Nat -> Nat
 | 0 => 0
 | m + 1 => unl S m + (if S m = true then 0 else 1)
theorem unl_le (S : Nat -> Bool) : ∀ m, unl S m <= m
 | 0 => Nat.le_refl _
 | m + 1 => by have := unl_le S m; rw [unl]; split <;> omega
theorem unl_zero {S : Nat -> Bool} : ∀ {m}, unl S m = 0 -> ∀ k, k < m -> S k = true
 | 0, _, k, hk => by omega
 | m + 1, h, k, hk => by
  rw [unl] at h
  by_cases hs : S m = true
  ·by_cases hkm : k = m
   ·subst hkm; exact hs
   ·exact unl_zero (m := m) (by omega) k (by omega)
  ·rw [if_neg hs] at h; omega
theorem unl_ins {S S' : Nat -> Bool} {j : Nat} (hS : ∀ k, S' k = if k = j then true else S k) (hj : S j = false) : ∀ m, unl S m = unl S' m + (if j < m then 1 else 0)
 | 0 => by simp [unl]
 | m + 1 => by
  have ih := unl_ins hS hj m
  rw [unl, unl, ih]
  by_cases hm : m = j
  ·subst hm
   rw [hS m, if_pos rfl, hj]
   simp
  ·rw [hS m, if_neg hm]
   by_cases hlt : j < m
   ·rw [if_pos (c := j < m) hlt, if_pos (c := j < m + 1) (by omega)]; omega
   ·rw [if_neg (c := j < m) hlt, if_neg (c := j < m + 1) (by omega)]; omega
noncomputable def restr (us : List Nat) (T : Tm) : Tm := us.map fun i => (i, lk i T)
theorem lk_restr (i : Nat) (T : Tm) : ∀ us : List Nat, lk i (restr us T) = if i ∈ us then lk i T else .top
 | [] => rfl
 | u :: us => by
  show lk i ((u, lk u T) :: restr us T) = _
  rw [lk_cons, lk_restr i T us]
  by_cases h : u = i
  ·subst h; simp
  ·rw [if_neg h]; simp [Ne.symm h]
def hsub (H V : Hp) : Hp := H.filter fun p => (hget p.1 V).isNone
theorem hget_hsub (b : Nat) (V : Hp) : ∀ H : Hp, hget b (hsub H V) = if (hget b V).isNone = true then hget b H else none
 | [] => by simp [hsub, hget]
 | p :: H => by
  have ih := hget_hsub b V H
  unfold hsub at ih ⊢
  rw [List.filter_cons]
  by_cases h : (hget p.1 V).isNone = true
  ·rw [if_pos h]
   show (if p.1 = b then some p.2 else hget b _) = _
   rw [ih]
   show _ = if (hget b V).isNone = true then (if p.1 = b then some p.2 else hget b H) else none
   by_cases hb : p.1 = b
   ·rw [hb] at h
    rw [if_pos hb, if_pos h, if_pos hb]
   ·rw [if_neg hb, if_neg hb]
  ·rw [if_neg h, ih]
   show _ = if (hget b V).isNone = true then (if p.1 = b then some p.2 else hget b H) else none
   by_cases hb : p.1 = b
   ·rw [hb] at h
    rw [if_neg h, if_neg h]
   ·rw [if_neg hb]
end
end Go.Proofs.YtgaghaggiblabaaGreatDoor.Ev
namespace Go.Proofs.YtgaghaggiblabaaGreatDoor.Ev
open Go.RowKit
section
variable {P : PX} {N : Fr} {wm : Nat} {rec : Rec} {mi : I -> Oper -> Prop} {ops : Array Oper} {F : Nat -> Stp} {is : List D}
theorem getD_of {is : List D} {k : Nat} (h : k < is.length) : ∃ d, is[k]? = some d := ⟨is[k], List.getElem?_eq_getElem h⟩
section
variable (hc : Chain P N wm mi F is ops) (hst : DStat ops is)
include hc
theorem Chain.T {k : Nat} {d : D} (h : is[k]? = some d) : (F (k + 1)).T = dput (ddst d) (F k).v (F k).T := let ⟨_, _, _, hs⟩ := hc.sf k d h; hs.T
theorem Chain.mono {i j : Nat} (h : i <= j) (hj : j <= is.length) : (F i).n <= (F j).n := by
 induction j with
 | zero => have : i = 0 := by omega
           subst this; exact Nat.le_refl _
 | succ j ih =>
  by_cases e : i = j + 1
  ·subst e; exact Nat.le_refl _
  ·obtain ⟨d, hd⟩ := getD_of (is := is) (k := j) (by omega)
   obtain ⟨_, _, _, hs⟩ := hc.sf j d hd
   exact Nat.le_trans (ih (by omega) (by omega)) hs.n
theorem Chain.dom {k : Nat} {d : D} (h : is[k]? = some d) {b : Nat} (hb : hget b (F k).H ≠ none) : b < (F k).n := by
 obtain ⟨_, _, _, hs⟩ := hc.sf k d h
 obtain ⟨s, a, hi, e1, e2, _⟩ := hs.sem
 rw [<- e2] at hb
 rw [<- e1]
 cases e : hget b s.H with
 | none => exact absurd e hb
 | some ab => exact hi.dom e
theorem Chain.domV {k : Nat} {d : D} (h : is[k]? = some d) {b : Nat} (hb : hget b (F k).V ≠ none) : hget b (F k).H = hget b (F k).V /\ b < (F k).n := by
 obtain ⟨_, _, _, hs⟩ := hc.sf k d h
 have e : hget b (F k).H = hget b (F k).V := by
  rcases hs.part b with ⟨e, _⟩ | ⟨e, _⟩
  ·exact e.symm
  ·exact absurd e hb
 exact ⟨e, hc.dom h (by rw [e]; exact hb)⟩
theorem Chain.tch {k : Nat} {d : D} (h : is[k]? = some d) {b : Nat} (ht : Tch F b k) : (d.wr = true /\ hget b (F k).V ≠ none) \/ ((F k).n <= b /\ b < (F (k + 1)).n /\ d.al = true) := by
 obtain ⟨_, _, _, hs⟩ := hc.sf k d h
 have hH := hs.H b
 rcases Nat.lt_or_ge b (F k).n with hb | hb
 ·left
  have hV : hget b (F k).V ≠ none := by
   intro e
   have e2 := hs.sub b hb e
   refine ht ?_
   rw [hH, e2]
   rcases hs.part b with ⟨e3, e4⟩ | ⟨e3, e4⟩
   ·rw [e4, <- e3, e]; rfl
   ·rw [e4]; rfl
  refine ⟨?_, hV⟩
  cases hw : d.wr with
  | true => rfl
  | false =>
   have e := hs.ro hw b hb
   refine absurd ?_ ht
   rw [hH, e]
   obtain ⟨e5, _⟩ := hc.domV h hV
   rw [e5]
   cases e6 : hget b (F k).V with
   | none => exact absurd e6 hV
   | some x => rfl
 ·right
  have hno : hget b (F k).H = none := by
   cases e : hget b (F k).H with
   | none => rfl
   | some x => have := hc.dom h (b := b) (by rw [e]; simp); omega
  have hR : hget b (F k).R = none := by
   rcases hs.part b with ⟨_, e⟩ | ⟨_, e⟩
   ·exact e
   ·exact e.trans hno
  have hV' : hget b (F k).V' ≠ none := by
   intro e
   refine ht ?_
   rw [hH, e, hR, hno]
   rfl
  have hlt := hs.top b hV'
  refine ⟨hb, hlt, ?_⟩
  cases ha : d.al with
  | true => rfl
  | false => have := hs.nal ha; omega
include hst
theorem Chain.us {k j : Nat} (h : k <= j) (hj : j <= is.length) {d : D} (hd : is[k]? = some d) {x : Nat} (hx : x ∈ uOs d.ps) : lk x (F j).T = lk x (F k).T := by
 induction j with
 | zero => have : k = 0 := by omega
           subst this; rfl
 | succ j ih =>
  by_cases e : k = j + 1
  ·subst e; rfl
  ·obtain ⟨y, hy⟩ := getD_of (is := is) (k := j) (by omega)
   rw [hc.T hy, lk_dput, if_neg (fun e' => hst.war k j d y (by omega) hd hy x e' hx)]
   exact ih (by omega) (by omega)
omit hc hst in
theorem mem_ps {d : D} {z : O} (hz : z ∈ d.ps) {x : Nat} (e : z = .t x) : x ∈ d.us := by
 unfold D.us
 refine List.mem_append_right _ (List.mem_flatMap.2 ⟨z, hz, ?_⟩)
 subst e
 exact List.mem_singleton.2 rfl
theorem Chain.ps {k j : Nat} (h : k <= j) (hj : j <= is.length) {d : D} (hd : is[k]? = some d) {z : O} (hz : z ∈ d.ps) : ev (F j).T z = ev (F k).T z := by
 cases z with
 | c v => rfl
 | t x => exact hc.us hst h hj hd (List.mem_flatMap.2 ⟨.t x, hz, List.mem_singleton.2 rfl⟩)
end
theorem clo_anc {S : Nat -> Bool} (clo : ∀ j o e, ops[j]? = some o -> S j = true -> e ∈ o.after -> Region.binds .any e = true -> S e.on = true) {i j : Nat} (h : Anc ops i j) : S j = true -> S i = true := by
 induction h with
 | one h1 h2 h3 h4 => intro hj; rw [<- h4]; exact clo _ _ _ h1 hj h2 h3
 | step _ _ ih1 ih2 => exact fun hj => ih1 (ih2 hj)
theorem pre_anc {S : Nat -> Bool} (clo : ∀ j o e, ops[j]? = some o -> S j = true -> e ∈ o.after -> Region.binds .any e = true -> S e.on = true) {i j : Nat} (h : Anc ops i j) :
  (∀ o e, ops[j]? = some o -> e ∈ o.after -> Region.binds .any e = true -> S e.on = true) -> S i = true := by
 induction h with
 | one h1 h2 h3 h4 => intro hp; rw [<- h4]; exact hp _ _ h1 h2 h3
 | step h1 _ _ ih2 => exact fun hp => clo_anc clo h1 (ih2 hp)
theorem VR.blk {K : Kap} {ρ : Rho} {v : AV} {u : Value} (h : VR P K ρ v u) {b : Nat} (hb : blkOf v = some b) : ρ b ≠ none := by
 have hk : v ≠ .top /\ ∀ l, v ≠ .tup l := by
  constructor
  ·rintro rfl; cases hb
  ·rintro l rfl; cases hb
 obtain ⟨l, c, hR, _⟩ := h.known hk.1 hk.2
 intro hn
 cases hR <;> first | (cases hb; done) | skip
 all_goals
  cases hb
  rename_i h1 _
  simp_all
structure DI (P : PX) (N : Fr) (wm : Nat) (ops : Array Oper) (F : Nat -> Stp) (is : List D) (S : Nat -> Bool) (s0 : St) (a : Act) (w : World) : Prop where
 ex : ∃ K ρ Hs, Ext0 P wm s0.n s0 ⟨K, ρ, (F is.length).n, Hs, w⟩ /\ TR P K ρ N (TSf F is S is.length) a /\ (∀ b, hget b Hs = CS F S b is.length) /\ (∀ k, k < is.length -> S k = false -> ∀ b, (F k).n <= b -> b < (F (k + 1)).n -> ρ b = none)
 vis : ∀ k i, k < is.length -> S k = true -> S i = false -> i < k -> ∀ b, (F i).n <= b -> b < (F (i + 1)).n -> hget b (F k).V = none
 clo : ∀ j o e, ops[j]? = some o -> S j = true -> e ∈ o.after -> Region.binds .any e = true -> S e.on = true
theorem see_cases (d : D) : d.see = 0 \/ d.see = 1 \/ d.see = 2 := by cases d <;> simp [D.see]
theorem di_step {ro : Option Nat} (hc : Chain P N wm mi F is ops) (hst : DStat ops is) {Q : Exit -> Act -> World -> Prop} {s0 : St} (hwn : wm <= s0.n) (hn0 : s0.n = (F 0).n) {S S' : Nat -> Bool} {a : Act} {w : World} (hD : DI P N wm ops F is S s0 a w) {j : Nat} (hj : j < is.length) (hSj : S j = false)
  (hpre : ∀ o e, ops[j]? = some o -> e ∈ o.after -> Region.binds .any e = true -> S e.on = true) (hS : ∀ k, S' k = if k = j then true else S k) {K' : Act -> World -> Prop} (hK : ∀ a' w', DI P N wm ops F is S' s0 a' w' -> K' a' w') : wpOpIn (Fw ro) 0 P ops Q j K' a w := by
 obtain ⟨⟨K, ρ, Hs, hE, hT, hH, hρ⟩, hvis, hclo⟩ := hD
 obtain ⟨d, hd⟩ := getD_of hj
 obtain ⟨o, hoj, hok, hsf⟩ := hc.sf j d hd
 have un1 : ∀ k e, k < j -> S k = false -> is[k]? = some e -> Okp (j - 1 - k) e d := by
  intro k e hk hs he
  rcases hst.pair k j e d hk he hd with h | h
  ·rw [pre_anc hclo h hpre] at hs; cases hs
  ·exact h
 have un2 : ∀ k e, j < k -> S k = true -> is[k]? = some e -> Okp (k - 1 - j) d e := by
  intro k e hk hs he
  rcases hst.pair j k d e hk hd he with h | h
  ·rw [clo_anc hclo h hs] at hSj; cases hSj
  ·exact h
 -- the slots that it looks at
 have hslot : ∀ x, x ∈ d.us -> lk x (TSf F is S is.length) = lk x (F j).T := by
  intro x hx
  have := TSf_at (F := F) (i := x) (j := j) (S := S) (fun k e he => hc.T he) is.length (Nat.le_refl _) (fun k e hk he hdx => by
   rcases Nat.lt_or_ge k j with h | h
   ·refine ⟨fun _ => h, fun _ => ?_⟩
    cases hs : S k with
    | true => rfl
    | false => exact absurd hx ((un1 k e h hs he).d1 x hdx)
   ·refine ⟨fun hs => ?_, fun hl => absurd hl (by omega)⟩
    exfalso
    have hne : k ≠ j := by rintro rfl; rw [hSj] at hs; cases hs
    exact (un2 k e (by omega) hs he).d3 x hdx hx)
  rwa [Nat.min_eq_left (by omega)] at this
 -- the blocks that it sees
 have hvisj : ∀ i, i < j -> S i = false -> ∀ b, (F i).n <= b -> b < (F (i + 1)).n -> hget b (F j).V = none := by
  intro i hi hs b hb1 hb2
  obtain ⟨e, he⟩ := getD_of (is := is) (k := i) (by omega)
  have hp := un1 i e hi hs he
  have hal : e.al = true := by
   cases h : e.al with
   | true => rfl
   | false =>
    obtain ⟨_, _, _, hs⟩ := hc.sf i e he
    have := hs.nal h
    omega
  rcases see_cases d with h | h | h
  ·exact hsf.see.see0 h b
  ·refine hsf.see.see1 h _ (hp.al hal h) b ?_ ?_
   ·unfold rng
    rw [if_pos (by omega), show j - 1 - (j - 1 - i) = i by omega]
    exact hb1
   ·unfold rng
    rw [if_pos (by omega), show j - (j - 1 - i) = i + 1 by omega]
    exact hb2
  ·cases hv : hget b (F j).V with
   | none => rfl
   | some ab =>
    obtain ⟨z, hz, hzb⟩ := hsf.see.see2 h b (by rw [hv]; simp)
    cases z with
    | c v => rw [show ev (F j).T (.c v) = v from rfl, hst.psk j d _ v hd hz rfl] at hzb; cases hzb
    | t x =>
     have hx : x ∈ d.us := mem_ps hz rfl
     have hvr := hT.at_ x
     rw [hslot x hx] at hvr
     exact absurd (hρ i (by omega) hs b hb1 hb2) (hvr.blk hzb)
 have hcond : ∀ b, hget b (F j).V ≠ none -> ∀ k, k < is.length -> Tch F b k -> (S k = true ↔ k < j) := by
  intro b hb k hk ht
  obtain ⟨e, he⟩ := getD_of hk
  obtain ⟨_, _, _, hsk⟩ := hc.sf k e he
  refine ⟨fun hs => ?_, fun hlt => ?_⟩
  ·rcases Nat.lt_or_ge k j with h | h
   ·exact h
   ·have hne : k ≠ j := by rintro rfl; rw [hSj] at hs; cases hs
    have hp := un2 k e (by omega) hs he
    rcases hc.tch he ht with ⟨h1, h2⟩ | ⟨h1, h2, _⟩
    ·rcases hp.wr (.inr h1) with h3 | h3 | ⟨h3, h4, h5⟩
     ·exact absurd (hsf.see.see0 h3 b) hb
     ·exact absurd (hsk.see.see0 h3 b) h2
     ·obtain ⟨z, hz, hzb⟩ := hsf.see.see2 h3 b hb
      rw [<- hc.ps hst (k := j) (j := k) (by omega) (by omega) hd hz] at hzb
      exact absurd (hsk.see.hd2 h4 z (h5 z hz) b hzb) h2
    ·have := (hc.domV hd hb).2
     have := hc.mono (i := j) (j := k) (by omega) (by omega)
     omega
  ·cases hs : S k with
   | true => rfl
   | false =>
    exfalso
    have hp := un1 k e hlt hs he
    rcases hc.tch he ht with ⟨h1, h2⟩ | ⟨h1, h2, _⟩
    ·rcases hp.wr (.inl h1) with h3 | h3 | ⟨h3, h4, h5⟩
     ·exact h2 (hsk.see.see0 h3 b)
     ·exact hb (hsf.see.see0 h3 b)
     ·obtain ⟨z, hz, hzb⟩ := hsk.see.see2 h3 b h2
      rw [<- hc.ps hst (k := k) (j := j) (by omega) (by omega) he hz] at hzb
      exact hb (hsf.see.hd2 h4 z (h5 z hz) b hzb)
    ·exact hb (hvisj k hlt hs b h1 h2)
 have hcs : ∀ b, hget b (F j).V ≠ none -> hget b Hs = hget b (F j).H := by
  intro b hb
  have := CS_at (F := F) (b := b) (j := j) (S := S) is.length (hcond b hb)
  rw [Nat.min_eq_left (by omega)] at this
  rw [hH, this]
 have hconf : ∀ b, Tch F b j -> ∀ k, j < k -> S k = true -> k < is.length -> ¬ Tch F b k := by
  intro b htj k hk hs hkl htk
  obtain ⟨e, he⟩ := getD_of hkl
  rcases hc.tch hd htj with ⟨_, h2⟩ | ⟨h1, h2, _⟩
  ·have := (hcond b h2 k hkl htk).1 hs
   omega
  ·rcases hc.tch he htk with ⟨_, h4⟩ | ⟨h3, _, _⟩
   ·exact h4 (hvis k j hkl hs hSj hk b h1 h2)
   ·have := hc.mono (i := j + 1) (j := k) (by omega) (by omega)
    omega
 -- what holds behind it
 have hfin : ∀ (K2 : Kap) (ρ2 : Rho) (H2 : Hp) (w2 : World) (u : Value), Ext0 P wm s0.n s0 ⟨K2, ρ2, (F is.length).n, H2, w2⟩ -> Kle K K2 -> Rle ρ ρ2 -> VR P K2 ρ2 (F j).v u ->
   (∀ b, hget b H2 = (hget b (F j).V').or (if (hget b (F j).V).isNone = true then hget b Hs else none)) -> (∀ b, ¬ ((F j).n <= b /\ b < (F (j + 1)).n) -> ρ2 b = ρ b) -> DI P N wm ops F is S' s0 (a.put o.dst u) w2 := by
  intro K2 ρ2 H2 w2 u g1 g2 g3 g4 g5 g6
  refine ⟨⟨K2, ρ2, H2, g1, ⟨?_, ?_, ?_⟩, ?_, ?_⟩, ?_, ?_⟩
  ·rw [hok.dst]
   have := ((hT.mono g2 g3).dput hok.lt g4).size
   exact this
  ·have := ((hT.mono g2 g3).dput hok.lt g4).df
   rw [hok.dst]
   exact this
  ·intro i
   have h1 := ((hT.mono g2 g3).dput hok.lt g4).at_ i
   rw [hok.dst]
   rw [TSf_ins hS hSj hd (fun hdi k e hk he hs => ?_)]
   ·rw [lk_dput] at h1
    by_cases hdi : ddst d = some i
    ·rw [if_pos ⟨hj, hdi⟩]
     rwa [if_pos hdi] at h1
    ·rw [if_neg (fun e => hdi e.2)]
     rwa [if_neg hdi] at h1
   ·exact (un2 k e hk hs he).d2 i hdi
  ·intro b
   have hx := CS_ins (F := F) (b := b) hS hSj
   have hHj := hsf.H b
   have hpt := hsf.part b
   by_cases ht : Tch F b j
   · -- it touches the block
    have hcs2 : CS F S' b is.length = hget b (F (j + 1)).H := by
     have hq : ∀ m, m <= is.length -> (CS F S' b m = if j < m then hget b (F (j + 1)).H else CS F S b m) := by
      intro m
      induction m with
      | zero => intro _; simp [CS]
      | succ m ih =>
       intro hm
       rw [CS, CS, ih (by omega)]
       by_cases hmj : m = j
       ·subst hmj
        rw [if_pos ⟨by rw [hS m, if_pos rfl], ht⟩, if_pos (Nat.lt_succ_self _)]
       ·rw [hS m, if_neg hmj]
        by_cases hlt : j < m
        ·rw [if_neg (fun e => hconf b ht m hlt e.1 (by omega) e.2), if_pos hlt, if_pos (by omega)]
        ·rw [if_neg (c := j < m) hlt, if_neg (c := j < m + 1) (by omega)]
     rw [hq _ (Nat.le_refl _), if_pos hj]
    rw [hcs2, g5, hHj]
    cases e1 : hget b (F j).V' with
    | some x => rfl
    | none =>
     show (if (hget b (F j).V).isNone = true then hget b Hs else none) = hget b (F j).R
     cases e2 : hget b (F j).V with
     | none =>
      exfalso
      refine ht ?_
      rw [hHj, e1]
      rcases hpt with ⟨e3, e4⟩ | ⟨e3, e4⟩
      ·rw [e4, <- e3, e2]; rfl
      ·rw [e4]; rfl
     | some y =>
      rw [if_neg (by simp)]
      rcases hpt with ⟨e3, e4⟩ | ⟨e3, e4⟩
      ·exact e4.symm
      ·rw [e3] at e2; cases e2
   ·have hcs2 : CS F S' b is.length = CS F S b is.length := (hx (fun h => absurd h ht) is.length).1 ht
    rw [hcs2, g5, <- hH b]
    have ht' : hget b (F j).H = hget b (F (j + 1)).H := Classical.not_not.1 ht
    cases e1 : hget b (F j).V' with
    | some x =>
     rw [e1] at hHj
     have e2 : hget b (F j).H = some x := ht'.trans hHj
     have hb : b < (F j).n := hc.dom hd (by rw [e2]; simp)
     have hV : hget b (F j).V ≠ none := by
      intro e
      rw [hsf.sub b hb e] at e1
      cases e1
     rw [hcs b hV, e2]
     rfl
    | none =>
     show (if (hget b (F j).V).isNone = true then hget b Hs else none) = hget b Hs
     cases e2 : hget b (F j).V with
     | none => rw [if_pos (by simp)]
     | some y =>
      exfalso
      rw [e1] at hHj
      obtain ⟨e3, _⟩ := hc.domV hd (b := b) (by rw [e2]; simp)
      rcases hpt with ⟨e4, e5⟩ | ⟨e4, e5⟩
      ·rw [e5] at hHj
       rw [<- ht', e3, e2] at hHj
       cases hHj
      ·rw [e4] at e2; cases e2
  ·intro k hk hs b hb1 hb2
   have hkj : k ≠ j := by rintro rfl; rw [hS k, if_pos rfl] at hs; cases hs
   rw [hS k, if_neg hkj] at hs
   rw [g6 b, hρ k hk hs b hb1 hb2]
   rintro ⟨h1, h2⟩
   rcases Nat.lt_or_ge k j with h | h
   ·have := hc.mono (i := k + 1) (j := j) (by omega) (by omega)
    omega
   ·have := hc.mono (i := j + 1) (j := k) (by omega) (by omega)
    omega
  ·intro k i hk hs hi hik b hb1 hb2
   have hij : i ≠ j := by rintro rfl; rw [hS i, if_pos rfl] at hi; cases hi
   rw [hS i, if_neg hij] at hi
   by_cases hkj : k = j
   ·subst hkj
    exact hvisj i hik hi b hb1 hb2
   ·rw [hS k, if_neg hkj] at hs
    exact hvis k i hk hs hi hik b hb1 hb2
  ·intro k o' e ho' hs he hb
   rw [hS]
   split
   ·rfl
   ·by_cases hkj : k = j
    ·subst hkj
     exact hpre o' e ho' he hb
    ·rw [hS k, if_neg hkj] at hs
     exact hclo k o' e ho' hs he hb
 unfold wpOpIn
 rw [hoj]
 dsimp only
 have hgd := hok.guard
 rcases hsf.go with ⟨q, c, h1, h2, h3, h4, h5, h6, h7⟩ | ⟨h1, h2⟩
 · -- it is left out
  rw [h1] at hgd
  obtain ⟨jj, k1, k2, k3⟩ := hgd
  have hq : q.1 ∈ d.us := by
   unfold D.us
   rw [h1]
   simp
  have hwd := wanted_of hT k1 k2 k3 ((hslot q.1 hq).trans h2)
  rw [hwd, h3, if_neg (by simp)]
  refine ⟨fun _ _ => trivial, hK _ _ (hfin K ρ Hs w undef hE (fun _ _ e => e) (fun _ _ e => e) (by rw [h4]; exact .mkTop _) ?_ (fun _ _ => rfl))⟩
  intro b
  rw [h6 b, h7 b]
  rfl
 ·have hwd : Region.wanted o (yielded ops a.tmps) = true := by
   cases hg : dgd d with
   | none =>
    rw [hg] at hgd
    simp [Region.wanted, hgd]
   | some q =>
    rw [hg] at hgd
    obtain ⟨jj, k1, k2, k3⟩ := hgd
    obtain ⟨c, hc1, hc2⟩ := h1 q hg
    have hq : q.1 ∈ d.us := by
     unfold D.us
     rw [hg]
     simp
    rw [wanted_of hT k1 k2 k3 ((hslot q.1 hq).trans hc1), hc2]
  rw [if_pos hwd]
  obtain ⟨s1, a1, i1, e1, e2, t1⟩ := hsf.sem
  have hVH : ∀ b ab, hget b (F j).V = some ab -> hget b Hs = some ab := by
   intro b ab e
   have hb : hget b (F j).V ≠ none := by rw [e]; simp
   rw [hcs b hb, (hc.domV hd hb).1, e]
  have hVs : ∀ b ab, hget b (F j).V = some ab -> hget b s1.H = some ab := by
   intro b ab e
   have hb : hget b (F j).V ≠ none := by rw [e]; simp
   rw [e2, (hc.domV hd hb).1, e]
  have hinv := Inv.part (m := (F j).n) hE.inv hVH i1 e1 hVs
  have htr : TR P K (below ρ (F j).n) N (restr (uI d.ins) (F j).T) a := by
   refine ⟨hT.size, hT.df, fun i => ?_⟩
   rw [lk_restr]
   split
   ·rename_i hi
    have hx : i ∈ d.us := by unfold D.us; simp [hi]
    have hv := hT.at_ i
    rw [hslot i hx] at hv
    exact (t1.at_ i).restrict (fun b x e => below_lt (e1 ▸ i1.rdom b x e)) hv
   ·exact .mkTop _
  have hop := h2 ⟨K, below ρ (F j).n, (F j).n, (F j).V, w⟩ _ a rfl rfl hinv (fun i hi => by rw [lk_restr, if_pos hi]) htr
  refine hop ro Q K' ?_
  intro u av t q1 q2 q3
  have q3 : (some (av, t.n, t.H) : Out) = some ((F j).v, (F (j + 1)).n, (F j).V') := q3
  have q3 := Option.some.inj q3
  simp only [Prod.mk.injEq] at q3
  obtain ⟨e3, e4, e5⟩ := q3
  subst e3
  have hmono := hc.mono (i := 0) (j := j) (by omega) (by omega)
  obtain ⟨ρ2, p1, p2, p3, p4⟩ := frame_ok (wm := wm) (n0 := s0.n) (N' := (F is.length).n) (m' := (F (j + 1)).n) (H' := happ t.H (hsub Hs (F j).V)) hE.inv (Nat.le_refl _) (hc.mono (i := j + 1) (j := is.length) (by omega) (by omega)) (by omega)
   (by split; exact Nat.le_refl _; omega) (fun b => by
    cases e : hget b (F j).V with
    | none => exact .inl rfl
    | some x => exact .inr (hVH b x e).symm) (fun b hb1 hb2 => hρ j hj hSj b hb1 hb2) q2 e4 (fun b x e => by rw [hget_happ, e]; rfl) (fun b e e' => by
    rw [hget_happ, e, hget_hsub, e']; rfl) (fun b e e' => by
    rw [hget_happ, e, hget_hsub]
    cases e3 : hget b (F j).V with
    | none => exact absurd e3 e'
    | some x => rfl)
  refine hK _ _ (hfin _ ρ2 _ t.w u (hE.trans p4) p4.kle p1 (q1.mono (fun _ _ e => e) p2) (fun b => ?_) p3)
  rw [hget_happ, hget_hsub, e5]
end
end Go.Proofs.YtgaghaggiblabaaGreatDoor.Ev
namespace Go.Proofs.YtgaghaggiblabaaGreatDoor.Ev
open Go.RowKit
section
variable {P : PX} {N : Fr} {wm : Nat} {rec : Rec} {mi : I -> Oper -> Prop} {ops : Array Oper} {F : Nat -> Stp} {is : List D}
theorem ready_of {listed : Array Bool} {j : Nat} (h : j ∈ Region.ready .any ops listed) (hsz : listed.size = ops.size) : j < ops.size /\ listed.getD j false = false /\ ∀ o e, ops[j]? = some o -> e ∈ o.after -> Region.binds .any e = true -> listed.getD e.on false = true := by
 unfold Region.ready at h
 obtain ⟨h1, h2⟩ := List.mem_filter.1 h
 have hlt := List.mem_range.1 h1
 rw [Bool.and_eq_true] at h2
 obtain ⟨h2, h3⟩ := h2
 refine ⟨hlt, ?_, ?_⟩
 ·have e : listed.getD j true = listed.getD j false := by
   simp [Array.getD_eq_getD_getElem?, Array.getElem?_eq_getElem (show j < listed.size by omega)]
  rw [<- e]
  simpa using h2
 ·intro o e ho he hb
  rw [ho] at h3
  simp only [Option.map_some, Option.getD_some, Array.all_eq_true'] at h3
  have := h3 e he
  rw [hb] at this
  simpa using this
theorem ready_mem {listed : Array Bool} {j : Nat} (hsz : listed.size = ops.size) (h1 : j < ops.size) (h2 : listed.getD j false = false) (h3 : ∀ o e, ops[j]? = some o -> e ∈ o.after -> Region.binds .any e = true -> listed.getD e.on false = true) : j ∈ Region.ready .any ops listed := by
 unfold Region.ready
 refine List.mem_filter.2 ⟨List.mem_range.2 h1, ?_⟩
 rw [Bool.and_eq_true]
 refine ⟨?_, ?_⟩
 ·have e : listed.getD j true = listed.getD j false := by
   simp [Array.getD_eq_getD_getElem?, Array.getElem?_eq_getElem (show j < listed.size by omega)]
  rw [e, h2]
  rfl
 ·have ho : ops[j]? = some ops[j] := Array.getElem?_eq_getElem h1
  rw [ho]
  simp only [Option.map_some, Option.getD_some, Array.all_eq_true']
  intro e he
  cases hb : Region.binds .any e with
  | false => rfl
  | true => simpa using h3 _ e ho he hb
theorem getD_ins {listed : Array Bool} {j : Nat} (hj : j < listed.size) (k : Nat) : (listed.setIfInBounds j true).getD k false = if k = j then true else listed.getD k false := by
 simp only [Array.getD_eq_getD_getElem?, Array.getElem?_setIfInBounds]
 by_cases h : k = j
 ·subst h; simp [hj]
 ·rw [if_neg (Ne.symm h), if_neg h]
theorem any_ok {ro : Option Nat} (hc : Chain P N wm mi F is ops) (hst : DStat ops is) {Q : Exit -> Act -> World -> Prop} {s0 : St} (hwn : wm <= s0.n) (hn0 : s0.n = (F 0).n)
  (hQ : ∀ (S : Nat -> Bool) a w, (∀ k, k < is.length -> S k = true) -> DI P N wm ops F is S s0 a w -> Q .normal a w) : ∀ (fuel : Nat) (listed : Array Bool) (a : Act) (w : World), listed.size = ops.size -> unl (fun k => listed.getD k false) is.length <= fuel ->
   DI P N wm ops F is (fun k => listed.getD k false) s0 a w -> wpAnyIn (Fw ro) 0 P .any ops Q fuel listed a w := by
 intro fuel
 induction fuel with
 | zero =>
  intro listed a w hsz hu hD
  have hall := unl_zero (Nat.le_zero.1 hu)
  refine ⟨?_, hQ _ a w hall hD⟩
  cases hr : Region.ready .any ops listed with
  | nil => rfl
  | cons j l =>
   obtain ⟨h1, h2, _⟩ := ready_of (listed := listed) (j := j) (by rw [hr]; exact List.mem_cons_self) hsz
   have := hall j (by rw [hst.len]; exact h1)
   rw [h2] at this
   cases this
 | succ fuel ih =>
  intro listed a w hsz hu hD
  refine ⟨fun hr => hQ _ a w ?_ hD, fun j hjr => ?_⟩
  ·intro k
   induction k using Nat.strongRecOn with
   | _ k ihk =>
    intro hk
    cases hs : listed.getD k false with
    | true => rfl
    | false =>
     have : k ∈ Region.ready .any ops listed := by
      refine ready_mem hsz (by rw [<- hst.len]; exact hk) hs ?_
      intro o e ho he hb
      have := hst.back k o e ho he hb
      exact ihk e.on this (by omega)
     rw [hr] at this
     cases this
  ·obtain ⟨h1, h2, h3⟩ := ready_of hjr hsz
   have hjl : j < is.length := by rw [hst.len]; exact h1
   refine di_step hc hst hwn hn0 hD hjl h2 h3 (S' := fun k => (listed.setIfInBounds j true).getD k false) (fun k => getD_ins (by omega) k) ?_
   intro a' w' hD'
   refine ih _ a' w' (by simp [hsz]) ?_ hD'
   have := unl_ins (S := fun k => listed.getD k false) (S' := fun k => (listed.setIfInBounds j true).getD k false) (fun k => getD_ins (by omega) k) h2 is.length
   rw [if_pos hjl] at this
   omega
theorem TSf_all (hc : Chain P N wm mi F is ops) {S : Nat -> Bool} : ∀ m, m <= is.length -> (∀ k, k < m -> S k = true) -> TSf F is S m = (F m).T := by
 intro m
 induction m with
 | zero => intro _ _; rfl
 | succ m ih =>
  intro hm h
  obtain ⟨d, hd⟩ := getD_of (is := is) (k := m) (by omega)
  rw [TSf, hd]
  dsimp only
  rw [if_pos (h m (by omega)), ih (by omega) (fun k hk => h k (by omega)), hc.T hd]
theorem TSf_none {S : Nat -> Bool} (h : ∀ k, S k = false) : ∀ m, TSf F is S m = (F 0).T := by
 intro m
 induction m with
 | zero => rfl
 | succ m ih =>
  rw [TSf]
  split
  ·rw [h m, if_neg (by simp), ih]
  ·exact ih
theorem CS_all {S : Nat -> Bool} {b : Nat} : ∀ m, (∀ k, k < m -> S k = true) -> CS F S b m = hget b (F m).H := by
 intro m
 induction m with
 | zero => intro _; rfl
 | succ m ih =>
  intro h
  rw [CS]
  by_cases ht : Tch F b m
  ·rw [if_pos ⟨h m (by omega), ht⟩]
  ·rw [if_neg (fun e => ht e.2), ih (fun k hk => h k (by omega))]
   exact Classical.not_not.1 ht
theorem CS_none {S : Nat -> Bool} {b : Nat} (h : ∀ k, S k = false) : ∀ m, CS F S b m = hget b (F 0).H := by
 intro m
 induction m with
 | zero => rfl
 | succ m ih =>
  rw [CS, if_neg (fun e => by rw [h m] at e; exact Bool.false_ne_true e.1), ih]
noncomputable def ddsts (is : List D) : List Nat := is.filterMap ddst
theorem T_other (hc : Chain P N wm mi F is ops) {i : Nat} (hi : i ∉ ddsts is) : ∀ m, m <= is.length -> lk i (F m).T = lk i (F 0).T := by
 intro m
 induction m with
 | zero => intro _; rfl
 | succ m ih =>
  intro hm
  obtain ⟨d, hd⟩ := getD_of (is := is) (k := m) (by omega)
  rw [hc.T hd, lk_dput, if_neg, ih (by omega)]
  intro e
  exact hi (List.mem_filterMap.2 ⟨d, List.mem_of_getElem? hd, e⟩)
theorem All2.get {α β : Type} {p : α -> β -> Prop} {as : List α} {bs : List β} (h : All2 p as bs) {i : Nat} {a : α} (hi : as[i]? = some a) : ∃ b, bs[i]? = some b /\ p a b := h.at_ hi
theorem dreg_ok (hty : TyOk P) (hmx : P.follows .mixedOrders = true) (hmi : OpOk P N rec mi) {V : Nat -> Prop} {outs : List Nat} {id : Nat} (hd : All2 (DOk P N.n mi ops) is ops.toList) (hst : DStat ops is)
  (h1 : ∀ i, i ∈ ddsts is -> i ∈ outs \/ ¬ V i) (h2 : ∀ i, i ∈ outs -> V i) : RegW P N V (fun wm => ds rec wm is []) outs (.region id ops true) := by
 intro ro wm s T a k r Q hi hw ht ho hk hQ
 refine wpIn_region_any hmx ?_
 obtain ⟨F, f1, f2, f3, f4, f5, f6⟩ := ds_run hty hmi (T := T) (n := s.n) (H := s.H) hd ⟨s, a, hi, rfl, rfl, ht⟩ hw hk
 have hc : Chain P N wm mi F is ops := by
  refine ⟨fun i d hid => ?_⟩
  obtain ⟨o, ho, hok⟩ := hd.get hid
  exact ⟨o, by simpa using ho, hok, f4 i d o hid ho⟩
 have hE0 : Ext P wm s ⟨s.K, s.ρ, s.n, s.H, { s.w with drawn := s.w.drawn + 1 }⟩ := Ext.world hi rfl rfl rfl rfl
 have hn : s.n <= (F is.length).n := by rw [<- f2]; exact hc.mono (Nat.zero_le _) (Nat.le_refl _)
 refine any_ok hc hst (s0 := ⟨s.K, s.ρ, s.n, s.H, { s.w with drawn := s.w.drawn + 1 }⟩) hw f2.symm ?_ ops.size _ a _ (by simp) ?_ ?_
 ·rintro S a' w' hall ⟨⟨K, ρ, Hs, g1, g2, g3, _⟩, _, _⟩
  have g4 : Ext0 P wm s.n ⟨s.K, s.ρ, s.n, s.H, { s.w with drawn := s.w.drawn + 1 }⟩ ⟨K, ρ, (F is.length).n, (F is.length).H, w'⟩ := g1.heap (fun b => by rw [g3, CS_all _ hall])
  rw [TSf_all hc _ (Nat.le_refl _) hall] at g2
  obtain ⟨p1, p2⟩ := g2.outs ho (fun i hi' => by rw [T_other hc hi' _ (Nat.le_refl _), f1]) h1 h2
  exact hQ _ a' ⟨K, ρ, (F is.length).n, (F is.length).H, w'⟩ p1 p2 (hE0.trans g4.ext) f6
 ·rw [<- hst.len]; exact unl_le _ _
 ·have hS : ∀ k, (fun k => (Array.replicate ops.size false).getD k false) k = false := by
   intro k
   simp only [Array.getD_eq_getD_getElem?]
   cases e : (Array.replicate ops.size false)[k]? with
   | none => rfl
   | some x =>
    rw [Array.getElem?_replicate] at e
    split at e
    ·cases e; rfl
    ·cases e
  refine ⟨⟨s.K, s.ρ, s.H, Ext0.room hE0.inv hn, ?_, ?_, ?_⟩, ?_, ?_⟩
  ·rw [TSf_none hS, f1]; exact ht
  ·intro b
   rw [CS_none hS, f3]
  ·intro k hk _ b hb _
   have := hc.mono (i := 0) (j := k) (Nat.zero_le _) (by omega)
   cases e : s.ρ b with
   | none => rfl
   | some x => have := hi.rdom b x e; omega
  ·intro k i _ hs
   exact absurd (hS k) (by rw [show (fun k => (Array.replicate ops.size false).getD k false) k = true from hs]; simp)
  ·intro j o e _ hs
   exact absurd (hS j) (by rw [show (fun k => (Array.replicate ops.size false).getD k false) j = true from hs]; simp)
end
end Go.Proofs.YtgaghaggiblabaaGreatDoor.Ev
namespace Go.Proofs.YtgaghaggiblabaaGreatDoor.Ev
open Go.RowKit
section
variable {P : PX} {o : Oper} {a : Act} {s : St} {wm : Nat} {Kt : Kv} {r : AV × Nat × Hp}
theorem byts_some {α : Type} : ∀ {xs : List AV} {k : List Nat -> Option α} {r : α}, byts xs k = some r -> ∃ ms : List Nat, xs = ms.map (fun m => AV.int .u8 (.ofNat m)) /\ (∀ m, m ∈ ms -> m <= 255) /\ k ms = some r := by
 intro xs
 induction xs with
 | nil => intro k r h; exact ⟨[], rfl, (fun m hm => (by cases hm)), h⟩
 | cons x xs ih =>
  intro k r h
  cases x <;> first | (cases h; done) | skip
  rename_i kk m
  cases kk <;> first | (cases h; done) | skip
  cases m <;> first | (cases h; done) | skip
  rename_i m
  replace h : (Bool.rec none (byts xs fun r => k (m :: r)) (Nat.ble m 255) : Option α) = some r := h
  obtain ⟨h1, h2⟩ := brec_some h
  obtain ⟨ms, e1, e2, e3⟩ := ih h2
  refine ⟨_ :: ms, by rw [e1]; rfl, ?_, e3⟩
  intro m hm
  rcases List.mem_cons.1 hm with rfl | hm
  ·exact Nat.le_of_ble_eq_true h1
  ·exact e2 _ hm
theorem R_bytes_inv {K : Kap} {ρ : Rho} : ∀ {ms : List Nat} {ls : List Lay} {cs : List Value}, R P K ρ (ms.map (fun m => AV.int .u8 (.ofNat m))) ls cs -> cs = ms.map (fun (m : Nat) => Value.int .u8 (m : Int))
 | [], _, _, h => by cases h; rfl
 | m :: ms, _, _, h => by
  cases h with
  | int h => rw [R_bytes_inv h]; rfl
theorem eBb_ok (hty : TyOk P) (hi : Inv P s) {N : Fr} {T : Tm} (ht : TR P s.K s.ρ N T a) {rec : Rec} {x : O} {y : Operand} {t u e : TypeId} (ho : o.op = .convert t u y) (hm : om x y = true) (hs : P.underlying t = some (.slice e)) (he : P.underlying e = some (.int .u8)) (hd : P.underlying u = some .string)
  (h : eBb x rec T wm s.n s.H Kt = some r) : OpW P o a s wm Kt r := by
 have hv := om_ok hm ht
 unfold eBb at h
 generalize ev T x = av at h hv
 have hns : (∀ q, av ≠ .str q) /\ (∀ i t, av ≠ .ob i t) /\ els s.H av (fun xs => byts xs fun q => Kt (.str q) s.n s.H) = some r := by
  cases av <;> first | (cases h; done) | exact ⟨by simp, by simp, h⟩
 obtain ⟨hns, hno, h⟩ := hns
 obtain ⟨xs, hsrc, h⟩ := els_ok hty hi hv h
 obtain ⟨ms, rfl, hle, hk⟩ := byts_some h
 generalize hq : a.eval y = v at hsrc hv
 generalize hxs : ms.map (fun m => AV.int .u8 (.ofNat m)) = xs at hsrc
 cases hsrc with
 | nil =>
  have : ms = [] := by simpa using hxs
  subst this
  refine .pure hi (v := .string .empty) ?_ ?_ hk
  ·simp only [execOp, ho, hq]
   rw [Sem.run_bind, run_convert_bytes_string _ _ _ e _ _ _ hs he hd]
   rfl
  ·have := VR.of (P := P) (K := s.K) (ρ := s.ρ) (l := none) (.str (b := .empty) .nil)
   have e2 : strOf ByteArray.empty = [] := by
    unfold strOf
    rw [ByteArray.toList_eq]
    rfl
   rw [e2] at this
   exact this
 | emp =>
  rename_i c off cap
  have : ms = [] := by simpa using hxs
  subst this
  refine .pure hi (v := .string .empty) ?_ ?_ hk
  ·simp only [execOp, ho, hq]
   have hb := run_convert_bytes_back (P := P) s.w t u e ⟨c, off, none⟩ cap [] hs he hd (by intro j hj; simp at hj)
   rw [Sem.run_bind, show (0 : Nat) = ([] : List UInt8).length from rfl, hb]
   rfl
  ·have := VR.of (P := P) (K := s.K) (ρ := s.ρ) (l := none) (.str (b := .empty) .nil)
   have e2 : strOf ByteArray.empty = [] := by
    unfold strOf
    rw [ByteArray.toList_eq]
    rfl
   rw [e2] at this
   exact this
 | row h1 h2 =>
  subst hxs
  rename_i c off cap l cs
  have hcs := R_bytes_inv h1
  have hlen : (ms.map (fun m => AV.int .u8 (.ofNat m))).length = ms.length := by simp
  refine .pure hi (v := .string ⟨(ms.map UInt8.ofNat).toArray⟩) ?_ ?_ hk
  ·simp only [execOp, ho, hq]
   have hb := run_convert_bytes_back (P := P) s.w t u e ⟨c, off, none⟩ cap (ms.map UInt8.ofNat) hs he hd (by
    intro j hj
    have hj' : j < ms.length := by simpa using hj
    have hv : cs[j]? = some (.int .u8 ((ms[j] : Nat) : Int)) := by rw [hcs]; simp [hj']
    have hm := hle ms[j] (List.getElem_mem hj')
    have hu : (UInt8.ofNat ms[j]).toNat = ms[j] := by
     rw [UInt8.toNat_ofNat']
     omega
    have := h2.range j _ hv
    rw [Addr.add_mid, this]
    simp [hu])
   simp only [List.length_map] at hb ⊢
   rw [Sem.run_bind, hb]
   rfl
  ·have := VR.of (P := P) (K := s.K) (ρ := s.ρ) (l := none) (.str (b := ⟨(ms.map UInt8.ofNat).toArray⟩) .nil)
   have e2 : strOf ⟨(ms.map UInt8.ofNat).toArray⟩ = ms := by
    unfold strOf
    rw [ByteArray.toList_eq]
    simp only [List.map_map]
    conv => rhs; rw [<- List.map_id ms]
    apply List.map_congr_left
    intro m hm
    have := hle m hm
    simp only [Function.comp, id, UInt8.toNat_ofNat']
    omega
   rw [e2] at this
   exact this
 | str =>
  exfalso
  cases hv with
  | inl hv =>
   rcases hv with rfl | ⟨l, c, hR, e'⟩
   ·cases h
   ·cases hR <;> first | exact hns _ rfl | exact hno _ _ rfl | (cases e'; done)
  | inr hv =>
   obtain ⟨_, _, _, e', _⟩ := hv
   cases e'
theorem kfind_ok {K : Kap} {ρ : Rho} {kk j : IntKind} {n : Int} : ∀ {es : List (AV × AV)} {ents : List MapEntry} {α : Type} {k : Option AV -> Option α} {r : α} (i0 : Nat),
  All2 (fun (p : AV × AV) (e : MapEntry) => (∃ k, R P K ρ [p.1] [none] [k] /\ e.key = k) /\ V1 P K ρ p.2 e.val) es ents -> kfind .i (.int j n) es k = some r ->
   (Instr.findNow (.int kk) (.int j n) ents i0 = some none /\ k none = some r) \/ ∃ i e v, Instr.findNow (.int kk) (.int j n) ents i0 = some (some (i0 + i, e)) /\ V1 P K ρ v e /\ k (some v) = some r := by
 intro es
 induction es with
 | nil =>
  intro ents α k r i0 h hk
  cases h
  exact .inl ⟨rfl, hk⟩
 | cons p es ih =>
  intro ents α k r i0 h hk
  cases h with
  | cons h1 h2 =>
   rename_i e ents
   obtain ⟨⟨kv, hR, hkey⟩, hval⟩ := h1
   replace hk : eqv 9 .i (.int j n) p.1 (fun c => Bool.rec (kfind .i (.int j n) es k) (k (some p.2)) c) = some r := hk
   obtain ⟨p1, p2⟩ := p
   replace hk : (match ieq (.int j n) p1 with | some c => (fun c => Bool.rec (kfind .i (.int j n) es k) (k (some p2)) c) c | none => none) = some r := hk
   split at hk
   case h_2 => cases hk
   rename_i c hc
   obtain ⟨k1, m1, b, e1, rfl, rfl⟩ := ieq_ok (P := P) (K := K) (K' := K) (ρ := ρ) (ρ' := ρ) (x := .int j n) (u := .int j n) (.int .nil) hR hc
   cases e1
   have hs : Instr.sameNow (.int kk) (.int j n) e.key = some (n == b) := by
    rw [hkey]
    simp [Instr.sameNow]
   cases hb : (n == b) with
   | true =>
    rw [hb] at hk hs
    exact .inr ⟨0, e.val, p2, by simp [Instr.findNow, hs], hval, hk⟩
   | false =>
    rw [hb] at hk hs
    rcases ih (i0 + 1) h2 hk with ⟨g1, g2⟩ | ⟨i, e', v, g1, g2, g3⟩
    ·exact .inl ⟨by simp [Instr.findNow, hs, g1], g2⟩
    ·exact .inr ⟨i + 1, e', v, by simp [Instr.findNow, hs, g1]; omega, g2, g3⟩
theorem kput_ok {K : Kap} {ρ : Rho} {kk j : IntKind} {n : Int} {v : AV} : ∀ {es : List (AV × AV)} {ents : List MapEntry} {α : Type} {k : List (AV × AV) -> Option α} {r : α} (i0 : Nat),
  All2 (fun (p : AV × AV) (e : MapEntry) => (∃ k, R P K ρ [p.1] [none] [k] /\ e.key = k) /\ V1 P K ρ p.2 e.val) es ents -> kput .i (.int j n) v es k = some r ->
   (Instr.findNow (.int kk) (.int j n) ents i0 = some none /\ k (es ++ [(.int j n, v)]) = some r) \/
   ∃ i e, Instr.findNow (.int kk) (.int j n) ents i0 = some (some (i0 + i, e.val)) /\ ents[i]? = some e /\ e.key = .int j n /\ k (es.set i (.int j n, v)) = some r := by
 intro es
 induction es with
 | nil =>
  intro ents α k r i0 h hk
  cases h
  exact .inl ⟨rfl, hk⟩
 | cons p es ih =>
  intro ents α k r i0 h hk
  cases h with
  | cons h1 h2 =>
   rename_i e ents
   obtain ⟨⟨kv, hR, hkey⟩, hval⟩ := h1
   obtain ⟨p1, p2⟩ := p
   replace hk : eqv 9 .i (.int j n) p1 (fun c => Bool.rec (kput .i (.int j n) v es fun q => k ((p1, p2) :: q)) (k ((.int j n, v) :: es)) c) = some r := hk
   replace hk : (match ieq (.int j n) p1 with | some c => (fun c => Bool.rec (kput .i (.int j n) v es fun q => k ((p1, p2) :: q)) (k ((.int j n, v) :: es)) c) c | none => none) = some r := hk
   split at hk
   case h_2 => cases hk
   rename_i c hc
   obtain ⟨k1, m1, b, e1, rfl, rfl⟩ := ieq_ok (P := P) (K := K) (K' := K) (ρ := ρ) (ρ' := ρ) (x := .int j n) (u := .int j n) (.int .nil) hR hc
   cases e1
   have hs : Instr.sameNow (.int kk) (.int j n) e.key = some (n == b) := by
    rw [hkey]
    simp [Instr.sameNow]
   cases hb : (n == b) with
   | true =>
    have hnb : n = b := by simpa using hb
    rw [hb] at hk hs
    exact .inr ⟨0, e, by simp [Instr.findNow, hs], rfl, by rw [hkey, hnb], hk⟩
   | false =>
    rw [hb] at hk hs
    rcases ih (i0 + 1) h2 hk with ⟨g1, g2⟩ | ⟨i, e', g1, g2, g3, g4⟩
    ·exact .inl ⟨by simp [Instr.findNow, hs, g1], g2⟩
    ·exact .inr ⟨i + 1, e', by simp [Instr.findNow, hs, g1]; omega, by simpa using g2, g3, g4⟩
def mapk (P : PX) (h : Sh) (t : TypeId) : Bool := match h, P.underlying t with | .i, some (.map k _) => (match P.underlying k with | some (.int _) => true | _ => false) | _, _ => false
theorem mapk_ok {h : Sh} {t : TypeId} (hm : mapk P h t = true) : h = .i /\ ∃ k e kk, P.underlying t = some (.map k e) /\ P.underlying k = some (.int kk) := by
 unfold mapk at hm
 split at hm
 ·rename_i k e hu
  split at hm
  ·rename_i kk hk
   exact ⟨rfl, k, e, kk, hu, hk⟩
  ·cases hm
 ·cases hm
theorem run_checkKey_int {kt : TypeId} {kk j : IntKind} {n : Int} (hk : P.underlying kt = some (.int kk)) (e : Bool) (w : World) : (Instr.checkKey e 10000 kt (.int j n)).run P w = .ok () w := by
 rw [show (10000 : Nat) = 9999 + 1 from rfl]
 unfold Instr.checkKey
 simp only [Sem.run_bind, run_underlying hk, Result.andThen_ok, Sem.run_pure]
theorem VR.mp_inv {K : Kap} {ρ : Rho} {b : Nat} {v : Value} (h : VR P K ρ (.mp b) v) : (∃ c, ρ b = some (c, .map) /\ v = .map (some c)) \/ ∃ c, ρ b = some (c, .it) /\ v = .pointer (some ⟨c, 0, none⟩) := by
 obtain ⟨l, c, hR, he⟩ := h.known (by simp) (by simp)
 cases hR with
 | mpm h1 h2 => cases h2; exact .inl ⟨_, h1, he⟩
 | mpi h1 h2 => cases h2; exact .inr ⟨_, h1, he⟩
theorem BR.it_false {K : Kap} {ρ : Rho} {es : List (AV × AV)} {o : Obj} : ¬ BR P K ρ (.map es) .it o := by
 intro h
 cases o <;> exact h
theorem VR.v1 {K : Kap} {ρ : Rho} {v : AV} {u : Value} (h : VR P K ρ v u) (hn : ∀ l, v ≠ .tup l) : V1 P K ρ v u := by
 rcases h with h | ⟨l, _, e, _⟩
 ·exact h
 ·exact absurd e (hn l)
theorem eLu_ok (hi : Inv P s) {N : Fr} {T : Tm} (ht : TR P s.K s.ρ N T a) {rec : Rec} {h : Sh} {z : AV} {m k : O} {ok : Bool} {y q : Operand} {t el : TypeId} (ho : o.op = .lookup t y q ok) (h1 : om m y = true) (h2 : om k q = true) (hk : mapk P h t = true)
  (hel : ∃ key, P.underlying t = some (.map key el)) (hz : zok P z el = true) (hh : eLu h z m k ok rec T wm s.n s.H Kt = some r) : OpW P o a s wm Kt r := by
 obtain ⟨rfl, kt, e', kk, hu, hkt⟩ := mapk_ok hk
 obtain ⟨key', hu'⟩ := hel
 rw [hu] at hu'
 cases hu'
 obtain ⟨iz, vz, cz, z1, z2, z3, z4⟩ := zok_ok hz
 have hzv : VR P s.K s.ρ z vz := by rw [z3]; exact VR.of (z4 _ _)
 have hznt : ∀ l, z ≠ .tup l := by
  rintro l rfl
  have := z4 s.K s.ρ
  cases this
 have hv := om_ok h1 ht
 have hq := om_ok h2 ht
 unfold eLu at hh
 generalize ev T k = kav at hh hq
 cases kav <;> first | (cases hh; done) | skip
 rename_i j i
 have hqi := hq.int
 generalize ev T m = av at hh hv
 -- what is handed back
 have fin : ∀ (w : AV) (u : Value) (f : Bool), V1 P s.K s.ρ w u -> VR P s.K s.ρ (Bool.rec w (.tup [w, .bool f]) ok) (if ok = true then .tuple #[u, .bool f] else u) := by
  intro w u f hw
  cases ok with
  | false => exact .inl hw
  | true => exact .inr ⟨_, _, rfl, rfl, .cons hw (.cons (.inr ⟨none, [.bool f], .bool .nil, rfl⟩) .nil)⟩
 cases av <;> first | (cases hh; done) | skip
 ·rename_i b
  obtain ⟨ab, hb, hh⟩ := hk_some hh
  rcases hv.mp_inv with ⟨c, hc, he⟩ | ⟨c, hc, he⟩
  ·cases ab <;> first | (cases hh; done) | skip
   rename_i es
   obtain ⟨c', kk', o', f1, f2, f3, f4⟩ := hi.hr.blk _ _ hb
   rw [hc] at f1
   cases f1
   cases o' <;> simp only [BR] at f4
   rename_i ents clk
   obtain ⟨f4, _⟩ := f4
   replace hh : kfind .i (.int j i) es (fun r => Kt (luv z ok r) s.n s.H) = some r := hh
   rcases kfind_ok (kk := kk) 0 f4 hh with ⟨g1, g2⟩ | ⟨i', u, v, g1, g2, g3⟩
   ·refine .pure hi (v := if ok = true then .tuple #[vz, .bool false] else vz) ?_ (fin z vz false (hzv.v1 hznt)) g2
    simp only [execOp, ho, he, hqi, Instr.lookup, Sem.run_bind, run_underlying hu, Result.andThen_ok, Go.MapKept.run_getObj_map f3, Sem.run_pure, run_checkKey_int hkt, Go.MapKept.run_findKey hkt g1, run_zeroValue z1 z2]
   ·refine .pure hi (v := if ok = true then .tuple #[u, .bool true] else u) ?_ (fin v u true g2) g3
    simp only [execOp, ho, he, hqi, Instr.lookup, Sem.run_bind, run_underlying hu, Result.andThen_ok, Go.MapKept.run_getObj_map f3, Sem.run_pure, run_checkKey_int hkt, Go.MapKept.run_findKey hkt g1]
  ·exfalso
   obtain ⟨c', kk', o', f1, f2, f3, f4⟩ := hi.hr.blk _ _ hb
   rw [hc] at f1
   cases f1
   cases ab <;> first | (cases hh; done) | exact BR.it_false f4
 ·obtain ⟨l, c, hR, he⟩ := hv.known (by simp) (by simp)
  cases hR with
  | nilm hR =>
   cases hR
   have he : a.eval y = .map none := he
   refine .pure hi (v := if ok = true then .tuple #[vz, .bool false] else vz) ?_ (fin z vz false (hzv.v1 hznt)) hh
   have g1 : Instr.findNow (.int kk) (.int j i) [] 0 = some none := rfl
   simp only [execOp, ho, he, hqi, Instr.lookup, Sem.run_bind, run_underlying hu, Result.andThen_ok, Sem.run_pure, run_checkKey_int hkt, Go.MapKept.run_findKey hkt g1, run_zeroValue z1 z2]
theorem All2.set {α β : Type} {p : α -> β -> Prop} {as : List α} {bs : List β} (h : All2 p as bs) {x : α} {y : β} (hp : p x y) : ∀ i, All2 p (as.set i x) (bs.set i y) := by
 induction h with
 | nil => intro i; exact .nil
 | cons h1 h2 ih =>
  intro i
  cases i with
  | zero => exact .cons hp h2
  | succ i => exact .cons h1 (ih i)
theorem eMu_ok (hi : Inv P s) {N : Fr} {T : Tm} (ht : TR P s.K s.ρ N T a) {rec : Rec} {h : Sh} {m k v : O} {y q z : Operand} {t : TypeId} (ho : o.op = .mapUpdate t y q z \/ o.op = .insert t y q z) (h1 : om m y = true) (h2 : om k q = true) (h3 : om v z = true) (hmk : mapk P h t = true)
  (hh : eMu h m k v rec T wm s.n s.H Kt = some r) : OpW P o a s wm Kt r := by
 obtain ⟨rfl, kt, e', kk, hu, hkt⟩ := mapk_ok hmk
 have hv := om_ok h1 ht
 have hq := om_ok h2 ht
 have hz := om_ok h3 ht
 unfold eMu at hh
 generalize ev T v = vv at hh hz
 have hvv : (∀ l, vv ≠ .tup l) /\ (match ev T k with | .int j i => (match ev T m with | .mp b => (Bool.rec none (hk b s.H fun ab => mput .i ab (.int j i) vv fun ab => Kt .top s.n (hset b ab s.H)) (Nat.ble wm b) : Out) | _ => none) | _ => none) = some r := by
  cases vv <;> first | (cases hh; done) | exact ⟨by simp, hh⟩
 obtain ⟨hnt, hh⟩ := hvv
 have hz1 := hz.v1 hnt
 generalize ev T k = kav at hh hq
 cases kav <;> first | (cases hh; done) | skip
 rename_i j i
 have hqi := hq.int
 generalize ev T m = av at hh hv
 cases av <;> first | (cases hh; done) | skip
 rename_i b
 obtain ⟨hw, hh⟩ := brec_some hh
 have hw : wm <= b := Nat.ble_eq ▸ hw
 obtain ⟨ab, hb, hh⟩ := hk_some hh
 rcases hv.mp_inv with ⟨c, hc, he⟩ | ⟨c, hc, he⟩
 ·cases ab <;> first | (cases hh; done) | skip
  rename_i es
  obtain ⟨c', kk', o', f1, f2, f3, f4⟩ := hi.hr.blk _ _ hb
  rw [hc] at f1
  cases f1
  cases o' <;> simp only [BR] at f4
  rename_i ents clk
  obtain ⟨f4, f5⟩ := f4
  replace hh : kput .i (.int j i) vv es (fun es => Kt .top s.n (hset b (.map es) s.H)) = some r := hh
  have hkey : ∃ k, R P s.K s.ρ [.int j i] [none] [k] /\ Value.int j i = k := ⟨_, .int .nil, rfl⟩
  -- the map is set
  have fin : ∀ (es' : List (AV × AV)) (ents' : Array MapEntry) (clk' : Nat), BR P s.K s.ρ (.map es') .map (.map ents' clk') -> Kt .top s.n (hset b (.map es') s.H) = some r ->
    (Instr.mapUpdate t (.map (some c)) (.int j i) (a.eval z)).run P s.w = .ok () { s.w with heap := s.w.heap.setIfInBounds c (.map ents' clk') } -> OpW P o a s wm Kt r := by
   intro es' ents' clk' hbr hkt' hrun
   obtain ⟨q1, q2⟩ := Go.MapKept.heap_set (o' := .map ents' clk') f3
   have hext := Ext.store (wm := wm) (w' := { s.w with heap := s.w.heap.setIfInBounds c (.map ents' clk') }) hi hb hw hc q1 hbr q2 (by simp) rfl rfl rfl
   refine .skip ?_ hext hkt'
   rcases ho with ho | ho <;>
   ·simp only [execOp, ho, he, hqi, Sem.run_bind, hrun, Result.andThen_ok, Sem.run_pure]
  rcases kput_ok (kk := kk) 0 f4 hh with ⟨g1, g2⟩ | ⟨i', e, g1, g2, g3, g4⟩
  ·refine fin _ (ents.push { key := .int j i, val := a.eval z, born := clk }) (clk + 1) ⟨?_, ?_⟩ g2 ?_
   ·simp only [Array.toList_push]
    exact f4.app (.cons ⟨hkey, hz1⟩ .nil)
   ·intro e he
    simp only [Array.toList_push, List.mem_append, List.mem_singleton] at he
    rcases he with he | rfl
    ·have := f5 e he; omega
    ·exact Nat.lt_succ_self _
   ·simp only [Instr.mapUpdate, Sem.run_bind, run_underlying hu, Result.andThen_ok, Go.MapKept.run_getObj_map f3, run_checkKey_int hkt, Go.MapKept.run_findKey hkt g1, Go.MapKept.run_setObj_map _ f3]
  ·have hg2 : ents[0 + i']? = some e := by simpa using g2
   refine fin _ (ents.modify (0 + i') fun e => { e with key := .int j i, val := a.eval z }) clk ⟨?_, ?_⟩ g4 ?_
   ·have hmod : (ents.modify (0 + i') fun e => { e with key := Value.int j i, val := a.eval z }).toList = ents.toList.set i' { e with key := .int j i, val := a.eval z } := by
     apply List.ext_getElem?
     intro p
     simp only [Array.getElem?_toList, Array.getElem?_modify, List.getElem?_set, Nat.zero_add]
     by_cases hp : i' = p
     ·subst hp
      rw [if_pos rfl, if_pos rfl]
      have hlt := (List.getElem?_eq_some_iff.1 g2).1
      rw [if_pos hlt]
      have : ents[i']? = some e := by simpa using g2
      rw [this]
      rfl
     ·rw [if_neg hp, if_neg hp]
    rw [hmod]
    exact f4.set (y := { e with key := .int j i, val := a.eval z }) ⟨hkey, hz1⟩ i'
   ·intro x hx
    obtain ⟨p, hp⟩ := List.getElem?_of_mem hx
    simp only [Array.getElem?_toList, Array.getElem?_modify] at hp
    split at hp
    ·cases hq' : ents[p]? with
     | none => rw [hq'] at hp; cases hp
     | some x0 =>
      rw [hq'] at hp
      cases hp
      exact f5 x0 (List.mem_of_getElem? (by simpa using hq'))
    ·exact f5 x (List.mem_of_getElem? (by simpa using hp))
   ·have hkts : (Instr.keyThatStays (.int j i) (.int j i)).run P s.w = .ok (.int j i) s.w := by
     simp [Instr.keyThatStays, Instr.sameBits]
    simp only [Instr.mapUpdate, Sem.run_bind, run_underlying hu, Result.andThen_ok, Go.MapKept.run_getObj_map f3, run_checkKey_int hkt, Go.MapKept.run_findKey hkt g1, hg2, Option.map_some, Option.getD_some, g3, hkts, Go.MapKept.run_setObj_map _ f3]
 ·exfalso
  obtain ⟨c', kk', o', f1, f2, f3, f4⟩ := hi.hr.blk _ _ hb
  rw [hc] at f1
  cases f1
  cases ab <;> first | (cases hh; done) | exact BR.it_false f4
structure XtOk (P : PX) (f : Nat) (e : Array Value -> Sem Value) : Prop where
 ok : ∃ fn, P.funcs[f]? = some fn /\ (fn.name == "runtime.NumGoroutine") = false /\ fn.body.isNone = true /\ Extern.findNext fn = none /\ Extern.find fn = some e
theorem exec_call {f : Nat} {ys : Array Operand} {ts : Array TypeId} (ho : o.op = .call { callee := .value (.func f), args := ys, argTypes := ts }) (w : World) : (execOp a.eval o).run P w = (callFunc f (ys.map a.eval)).run P w := by
 unfold execOp
 simp only [ho, resolve, Sem.run_bind, Act.eval, Deferred.ofValue, Sem.run_pure, Result.andThen_ok, invoke, Array.empty_append, Array.append_empty]
theorem eLx_ok (hty : TyOk P) (hi : Inv P s) {N : Fr} {T : Tm} (ht : TR P s.K s.ρ N T a) {rec : Rec} {x : O} {y : Operand} {f : Nat} {ts : Array TypeId} (ho : o.op = .call { callee := .value (.func f), args := #[y], argTypes := ts }) (hm : om x y = true)
  (hx : XtOk P f (Extern.Atomic.loadT (.int .i64))) (h : eLx x rec T wm s.n s.H Kt = some r) : OpW P o a s wm Kt r := by
 obtain ⟨z, l, c, off, cs, hv, hR, hl, hk⟩ := rd_ok hty hi (om_ok hm ht) h
 cases z <;> first | (cases hk; done) | skip
 rename_i k m
 obtain ⟨h1, hk⟩ := brec_some hk
 have := keq_ok h1
 subst this
 have hcs : cs = [.int .i64 m] := by cases hR with | int h => cases h; rfl
 subst hcs
 have hcell : s.w.cell? ⟨c, off, none⟩ = some (.int .i64 m) := by simpa using hl.range 0 _ rfl
 obtain ⟨fn, x1, x2, x3, x4, x5⟩ := hx.ok
 refine .pure hi (v := .int .i64 m) ?_ (.mkInt _ _) hk
 rw [exec_call ho]
 simp only [List.map_toArray, List.map_cons, List.map_nil, hv]
 exact run_call_load x1 x2 x3 x4 .i64 x5 hcell
theorem setCell_row {w : World} {c off : Nat} {arr : Array Value} {e : TypeId} {v : Value} (hw : w.heap[c]? = some (.cells arr e (0, 0))) (hf : off + 1 <= arr.size) :
  w.setCell ⟨c, off, none⟩ v = w.setRow c (arr.toList.take off ++ [v] ++ arr.toList.drop (off + 1)).toArray := by
 rw [setCell_eq_setRow w c off arr e (0, 0) v hw]
 congr 1
 apply Array.toList_inj.1
 have := list_seg_step arr.toList off v [] (by simpa using hf)
 simp only [List.length_nil, Nat.add_zero, Nat.zero_add, List.append_nil] at this
 rw [<- this, List.take_append_drop, Array.toList_setIfInBounds]
theorem cell_row {w : World} {c off : Nat} {arr : Array Value} {e : TypeId} (hw : w.heap[c]? = some (.cells arr e (0, 0))) (hf : off + 1 <= arr.size) : (∃ u, w.cell? ⟨c, off, none⟩ = some u) /\ w.frozen? ⟨c, off, none⟩ = false := by
 refine ⟨⟨arr[off], ?_⟩, ?_⟩
 ·simp [World.cell?, hw, show off < arr.size by omega]
 ·simp [World.frozen?, hw]
theorem eSx_ok (hty : TyOk P) (hi : Inv P s) {N : Fr} {T : Tm} (ht : TR P s.K s.ρ N T a) {rec : Rec} {x v : O} {y z : Operand} {f : Nat} {ts : Array TypeId} (ho : o.op = .call { callee := .value (.func f), args := #[y, z], argTypes := ts }) (hm : om x y = true) (hm' : om v z = true)
  (hx : XtOk P f Extern.Atomic.storeT) (h : eSx x v rec T wm s.n s.H Kt = some r) : OpW P o a s wm Kt r := by
 have hv := om_ok hm' ht
 unfold eSx at h
 generalize ev T v = av at h hv
 cases av <;> first | (cases h; done) | skip
 rename_i k m
 obtain ⟨h1, h⟩ := brec_some h
 have := keq_ok h1
 subst this
 have he := hv.int
 obtain ⟨c, off, t', hu, hext, hk, hn, arr, e, hw, hf, htw⟩ := wr_ok hty hi (om_ok hm ht) (R.int (P := P) (K := s.K) (ρ := s.ρ) (k := .i64) (n := m) .nil) h
 obtain ⟨fn, x1, x2, x3, x4, x5⟩ := hx.ok
 obtain ⟨⟨u, q1⟩, q2⟩ := cell_row hw hf
 refine .value (t := t') (v := .tuple #[]) ?_ (.mkTop _) hext (by rw [hn]; exact hk)
 rw [exec_call ho]
 simp only [List.map_toArray, List.map_cons, List.map_nil, hu, he]
 rw [run_call_store x1 x2 x3 x4 x5 q1 q2, htw, setCell_row hw hf]
 rfl
theorem eCs_ok (hty : TyOk P) (hi : Inv P s) {N : Fr} {T : Tm} (ht : TR P s.K s.ρ N T a) {rec : Rec} {x p v : O} {y q z : Operand} {f : Nat} {ts : Array TypeId} (ho : o.op = .call { callee := .value (.func f), args := #[y, q, z], argTypes := ts }) (hm : om x y = true) (hm1 : om p q = true) (hm' : om v z = true)
  (hx : XtOk P f (Extern.Atomic.casT (.int .i64))) (h : eCs x p v rec T wm s.n s.H Kt = some r) : OpW P o a s wm Kt r := by
 have hv := om_ok hm' ht
 have hp := om_ok hm1 ht
 unfold eCs at h
 generalize ev T p = ap at h hp
 cases ap <;> first | (cases h; done) | skip
 rename_i ko b
 generalize ev T v = av at h hv
 cases av <;> first | (cases h; done) | skip
 rename_i kv d
 obtain ⟨z', l, c, off, cs, hpt, hR, hl, hk⟩ := rd_ok hty hi (om_ok hm ht) h
 cases z' <;> first | (cases hk; done) | skip
 rename_i kc a0
 obtain ⟨h1, hk2⟩ := brec_some hk
 clear hk h
 have hk := hk2
 clear hk2
 rw [and'_eq, and'_eq, Bool.and_eq_true, Bool.and_eq_true] at h1
 obtain ⟨h1, h2, h3⟩ := h1
 have := keq_ok h1
 subst this
 have := keq_ok h2
 subst this
 have := keq_ok h3
 subst this
 have hcs : cs = [.int .i64 a0] := by cases hR with | int h => cases h; rfl
 subst hcs
 have hcell : s.w.cell? ⟨c, off, none⟩ = some (.int .i64 a0) := by simpa using hl.range 0 _ rfl
 obtain ⟨fn, x1, x2, x3, x4, x5⟩ := hx.ok
 have e1 := hp.int
 have e2 := hv.int
 rw [beqI_eq] at hk
 cases hb : (a0 == b) with
 | true =>
  have hab : a0 = b := by simpa using hb
  subst hab
  rw [hb] at hk
  obtain ⟨c', off', t', hu, hext, hk, hn, arr, e, hw, hf, htw⟩ := wr_ok hty hi (om_ok hm ht) (R.int (P := P) (K := s.K) (ρ := s.ρ) (k := .i64) (n := d) .nil) hk
  rw [hpt] at hu
  cases hu
  obtain ⟨_, q2⟩ := cell_row hw hf
  refine .value (t := t') (v := .bool true) ?_ (.mkBool _) hext (by rw [hn]; exact hk)
  rw [exec_call ho]
  simp only [List.map_toArray, List.map_cons, List.map_nil, hpt, e1, e2]
  rw [run_call_cas_hit x1 x2 x3 x4 .i64 x5 hcell q2, htw, setCell_row hw hf]
  rfl
 | false =>
  have hab : ¬ a0 = b := by simpa using hb
  rw [hb] at hk
  obtain ⟨c', off', t', hu, hext, hk, hn, arr, e, hw, hf, htw⟩ := wr_ok hty hi (om_ok hm ht) (R.int (P := P) (K := s.K) (ρ := s.ρ) (k := .i64) (n := a0) .nil) hk
  rw [hpt] at hu
  cases hu
  obtain ⟨_, q2⟩ := cell_row hw hf
  refine .pure hi (v := .bool false) ?_ (.mkBool _) hk
  rw [exec_call ho]
  simp only [List.map_toArray, List.map_cons, List.map_nil, hpt, e1, e2]
  exact run_call_cas_miss x1 x2 x3 x4 .i64 x5 hcell q2 hab
theorem run_append_zeros {sT xT el : TypeId} {ty : TypeId} {kk : IntKind} {i : TypeInfo} {d : TypeDesc} {z : Value} (hu : P.underlying sT = some (.slice el)) (hx : P.underlying xT = some (.int kk)) (hi : P.info? el = some i) (hd : P.underlying el = some d)
  (hz : i.zero = some z) (hb : i.bytes <= 65536) {j : IntKind} {m cap : Nat} {w : World} (h1 : 1 <= m) (h4 : m <= 1000000) (h3 : cap = 0) :
  ∃ N, m <= N /\ (Builtin.append_ #[sT, xT] ty #[.slice none 0 cap, .int j (m : Int)]).run P w = .ok (.slice (some ⟨w.heap.size, 0, none⟩) m N)
   (w.drew.alloc (.cells ((if m * P.cellsOf el = 0 then #[] else Builtin.zeroCells z.cells m) ++ Builtin.zeroCells z.cells (N - m)) el)) := by
 subst h3
 have hs : i.size = P.cellsOf el := by simp [Program.cellsOf, hi]
 have hnc := nextcap_le (need := m) (cap := 0) (by omega) h4
 have hbig : ¬ Builtin.nextslicecap m 0 * i.bytes > 2 ^ 48 := by
  have : Builtin.nextslicecap m 0 * i.bytes <= 4000000 * 65536 := Nat.mul_le_mul hnc hb
  omega
 refine ⟨(Question.appendCap m 0 el).cut (w.tape w.drawn (.appendCap m 0 el)), by simp [Question.cut], ?_⟩
 have hmax : ¬ (9223372036854775807 < (m : Int)) := by omega
 have hf : (Question.appendCap m 0 el).forced = false := rfl
 have hroom : ∀ (k : Nat) (v : World), (askRoom k).run P v = .ok () v := by
  intro k v
  unfold askRoom
  split <;> rfl
 have hzv : ∀ v : World, (zeroValue el).run P v = .ok z v := fun v => run_zeroValue hi hz v
 have hnr : ∀ (cells : Array Value) (v : World), (newRow el cells).run P v = .ok ⟨v.heap.size, 0, none⟩ (v.alloc (.cells cells el)) := fun cells v => run_newRow v el cells
 have hwr : IntKind.i64.wrap (m : Int) = (m : Int) := IntWalk.i64_in (m : Int) (by omega)
 have hneg : ¬ (m : Int) < 0 := by omega
 have hbytes : ¬ ((m : Int) * (i.bytes : Int) > 2 ^ 48) := by
  have h1 : m * i.bytes <= 1000000 * 65536 := Nat.mul_le_mul h4 hb
  have h2 : ((m * i.bytes : Nat) : Int) <= 65536000000 := by omega
  rw [Int.natCast_mul] at h2
  omega
 have htn : ((m : Int)).toNat = m := rfl
 have hne : ¬ m = 0 := by omega
 have hbytes' : ¬ (281474976710656 : Int) < (m : Int) * (i.bytes : Int) := fun h => hbytes (by
  have : (2 : Int) ^ 48 = 281474976710656 := by decide
  rw [this]; exact h)
 unfold Builtin.append_
 simp only [List.getElem?_toArray, List.getElem?_cons_zero, List.getElem?_cons_succ]
 by_cases hz0 : m * P.cellsOf el = 0
 ·simp [run_underlying hu, run_underlying hx, sizeOf, typeInfo, hi, hs, asInt, asIntOf, hwr, hneg, hbytes, htn, hne, hbig, hmax, hf, hroom, hzv, hnr, hz0, Builtin.firstCells]
  exact fun hc => absurd hc hbytes'
 ·simp [run_underlying hu, run_underlying hx, sizeOf, typeInfo, hi, hs, asInt, asIntOf, hwr, hneg, hbytes, htn, hne, hbig, hmax, hf, hroom, hzv, hnr, hz0, Builtin.firstCells]
  exact fun hc => absurd hc hbytes'
def azk (P : PX) (z : AV) (sT xT : TypeId) : Bool := rwk P z sT && (match P.underlying xT with | some (.int _) => true | _ => false)
theorem eAz_ok (hty : TyOk P) (hi : Inv P s) (hw : wm <= s.n) {N : Fr} {T : Tm} (ht : TR P s.K s.ρ N T a) {rec : Rec} {z : AV} {x y : O} {x' y' : Operand} {sT xT : TypeId} (ho : o.op = .call { callee := .builtin .append, args := #[x', y'], argTypes := #[sT, xT] }) (h1 : om x x' = true) (h2 : om y y' = true)
  (hz : azk P z sT xT = true) (h : eAz z x y rec T wm s.n s.H Kt = some r) : OpW P o a s wm Kt r := by
 unfold azk at hz
 rw [Bool.and_eq_true] at hz
 obtain ⟨hz, hx⟩ := hz
 obtain ⟨kk, hx⟩ : ∃ kk, P.underlying xT = some (.int kk) := by
  split at hx
  ·exact ⟨_, by assumption⟩
  ·cases hx
 obtain ⟨el, i, v, c, d, hu, e1, e2, e3, e4, hd, e5, e6, e7, etn⟩ := rwk_ok hty hz
 have hv := om_ok h1 ht
 have hq := om_ok h2 ht
 unfold eAz at h
 generalize ev T y = ay at h hq
 cases ay <;> first | (cases h; done) | skip
 rename_i j n
 cases n <;> first | (cases h; done) | skip
 rename_i m
 generalize ev T x = av at h hv
 cases av <;> first | (cases h; done) | skip
 obtain ⟨hb, hk⟩ := brec_some h
 rw [and'_eq, Bool.and_eq_true] at hb
 have hb1 := Nat.le_of_ble_eq_true hb.1
 have hb2 := Nat.le_of_ble_eq_true hb.2
 obtain ⟨_, hk⟩ := brec_some hk
 rw [len_eq, fill_eq] at hk
 have hlen : (List.replicate m z).length = m := by simp
 rw [hlen] at hk
 obtain ⟨M, hM, hrun⟩ := run_append_zeros (ty := o.type) (j := j) (w := s.w) hu hx e1 hd e2 e5 hb1 hb2 rfl
 have hw1 := Ext.world (wm := wm) hi (w' := s.w.drew) rfl rfl rfl rfl
 have hR := R_replicate (e4 s.K s.ρ) m
 have hsz := szl_lay hty etn hd
 have hcells : (if m * P.cellsOf el = 0 then #[] else Builtin.zeroCells v.cells m).toList = (List.replicate m c).flatten := by
  have hcz : v.cells.size = P.cellsOf el := by rw [<- e7, <- e3]; simp
  split
  ·rename_i h0
   have : (List.replicate m c).flatten = [] := by
    apply List.eq_nil_of_length_eq_zero
    simp [List.length_flatten, e7, h0]
   rw [this]
  ·rename_i h0
   have := zero_row v.cells m (by rw [hcz]; exact h0)
   rw [e3] at this
   exact this
 have hsize : (List.replicate m c).flatten.length = m * P.cellsOf el := by simp [List.length_flatten, e7]
 have hbr : BR P s.K s.ρ (.row (List.replicate m z) true) (.row (lay P el) (List.replicate m z).length (M * P.cellsOf el)) (.cells ((if m * P.cellsOf el = 0 then #[] else Builtin.zeroCells v.cells m) ++ Builtin.zeroCells v.cells (M - m)) el) := by
  refine ⟨rfl, ?_, rfl, (List.replicate m c).flatten, (Builtin.zeroCells v.cells (M - m)).toList, ?_, ?_, fun e => by cases e⟩
  ·have hcz : v.cells.size = P.cellsOf el := by rw [<- e7, <- e3]; simp
   rw [Array.size_append, <- Array.length_toList, hcells, hsize, zeroCells_size, hcz, <- Nat.add_mul]
   congr 1
   omega
  ·rw [Array.toList_append, hcells]
  ·rw [hlen]; exact hR
 have hal := Ext.alloc (wm := wm) hw1.inv hw hbr
 obtain ⟨l0, c0, hR0, he0⟩ := hv.known (by simp) (by simp)
 have hx0 : a.eval x' = .slice none 0 0 := by cases hR0 with | sn h => cases h; exact he0
 have hy0 : a.eval y' = .int j (m : Int) := hq.int
 refine .value (v := .slice (some ⟨s.w.heap.size, 0, none⟩) m M) ?_ ?_ (hw1.trans hal) hk
 ·unfold execOp
  simp only [ho, resolve, Sem.run_bind, Deferred.ofValue, Sem.run_pure, Result.andThen_ok, invoke, builtin, List.map_toArray, List.map_cons, List.map_nil, hx0, hy0, Array.empty_append, Array.append_empty]
  rw [hrun]
  rfl
 ·have := R.sr (P := P) (K := s.K) (ρ := upd s.ρ s.n (s.w.heap.size, .row (lay P el) (List.replicate m z).length (M * P.cellsOf el))) (b := s.n) (off := 0) (n := m) (cap := m) (op := true) (ccap := M)
   (upd_same _ _ _) (Nat.le_refl _) (by simp) hM (fun e => by cases e) (by rw [Nat.zero_add, hsz]; exact Nat.le_refl _) .nil
  have := VR.of (l := none) this
  simp only [pk, List.headD_cons, Nat.zero_mul] at this
  rw [lc_eq (e4 s.K s.ρ)]
  exact this
end
end Go.Proofs.YtgaghaggiblabaaGreatDoor.Ev
