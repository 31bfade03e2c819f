/- Histories of picks; what Finish gives. No condition. -/
import Derived.Test.YtgaghaggiblabaaGreatDoorCog
import Derived.Test.YtgaghaggiblabaaGreatDoorFin
set_option linter.all false
namespace Go.Proofs.YtgaghaggiblabaaGreatDoor.Ev.T
open Go Go.RowKit
open Mach (S up nxt)
def encL : List Nat -> Nat
 | [] => 0
 | d :: l => 16 * encL l + d + 1
def decL (m : Nat) : List Nat := if h : m = 0 then [] else ((m - 1) % 16) :: decL ((m - 1) / 16)
 termination_by m
 decreasing_by omega
theorem dec_enc : ∀ {l : List Nat}, (∀ d, d ∈ l -> d < 16) -> decL (encL l) = l
 | [], _ => by rw [decL]; rfl
 | d :: l, h => by
  have hd := h d List.mem_cons_self
  rw [decL]
  show (if h : 16 * encL l + d + 1 = 0 then [] else ((16 * encL l + d + 1 - 1) % 16) :: decL ((16 * encL l + d + 1 - 1) / 16)) = _
  rw [dif_neg (by omega), show (16 * encL l + d + 1 - 1) % 16 = d by omega, show (16 * encL l + d + 1 - 1) / 16 = encL l by omega, dec_enc (fun x hx => h x (List.mem_cons_of_mem _ hx))]
section
variable {X : Nat -> AV} {C : Nat -> Int} {hC : HC C}
theorem known_fn (hX : GXn X) {mem : Nat -> List AV -> Option AV} (h : ∀ f aa r, mem f aa = some r -> PurC f (instL X C aa) (inst X C r) /\ okt X r /\ nrfL aa = true) : Known (QX X C hC) mem :=
 have key : ∀ f aa r, mem f aa = some r -> Knows (QX X C hC) f aa r := fun f aa r e => by
  obtain ⟨h1, h2, h3⟩ := h f aa r e
  exact knows_pur (Pur.take h1 hX.gx h2 (instL_nt hX.ntg _) (inst_nt hX.ntg _)) h3
 ⟨fun f aa r e => (key f aa r e).1, fun f aa r e => (key f aa r e).2⟩
theorem run_mem {tab : Nat -> Option FD} {mem : Nat -> List AV -> Option AV} {fuel f wm n : Nat} {aa : List AV} {r : AV} {H : Hp} (h : mem f aa = some r) : run tab mem (fuel + 1) f aa wm n H = some (r, n, H) := by
 show (match mem f aa with | some r => some (r, n, H) | none => _ : Out) = _
 rw [h]
theorem run_body {tab : Nat -> Option FD} {mem : Nat -> List AV -> Option AV} {fuel f wm n : Nat} {aa : List AV} {fd : FD} {H : Hp} (h : mem f aa = none) (ht : tab f = some fd) : run tab mem (fuel + 1) f aa wm n H = body (run tab mem fuel) fd aa wm n H := by
 show (match mem f aa with | some r => some (r, n, H) | none => (match tab f with | some fd => body (run tab mem fuel) fd aa wm n H | none => none) : Out) = _
 rw [h, ht]
end
theorem opA_inj : ∀ {l m : List Nat}, opA l = opA m -> l = m := by
 have hmap : ∀ {l m : List Nat}, (l.map fun (j : Nat) => i j) = (m.map fun (j : Nat) => i j) -> l = m := by
  intro l
  induction l with
  | nil => intro m h; cases m with
   | nil => rfl
   | cons y m => cases h
  | cons x l ih => intro m h; cases m with
   | nil => cases h
   | cons y m =>
    rw [List.map_cons, List.map_cons] at h
    obtain ⟨h1, h2⟩ := List.cons.inj h
    rw [AV.int.injEq] at h1
    rw [show x = y by omega, ih h2]
 intro l m h
 cases l with
 | nil => cases m with
  | nil => rfl
  | cons y m => cases h
 | cons x l => cases m with
  | nil => cases h
  | cons y m =>
   have h' : AV.sv ((x :: l).map fun (j : Nat) => i j) false = AV.sv ((y :: m).map fun (j : Nat) => i j) false := h
   rw [AV.sv.injEq] at h'
   exact hmap h'.1
open Classical in
noncomputable def mem9 (X : Nat -> AV) (op : Nat -> List Nat) (nx : Nat -> Nat -> Nat) (bd : Nat) (f : Nat) (aa : List AV) : Option AV :=
 if f = 12 then (match aa with
  | [.ob w _] => if aa = [.ob w 45] /\ PurC 12 [X w] (opA (op w)) then some (opA (op w)) else none
  | _ => none)
 else if f = 13 then (match aa with
  | [.ob w _, .int _ k] => if aa = [.ob w 45, i k.toNat] /\ PurC 13 [X w, i k.toNat] (.tup [X (nx w k.toNat), i 0]) then some (.tup [.ob (nx w k.toNat) 45, i 0]) else none
  | _ => none)
 else if f = 19 then (match aa with
  | [.ob w _] => if aa = [.ob w 45] /\ PurC 19 [X w] (i bd) then some (i bd) else none
  | _ => none)
 else if f = 20 then (if h : ∃ k : Nat, ∃ L : List Nat, aa = [opA L, i (L.getD k 0 : Nat)] /\ L.Nodup /\ k < L.length /\ PurC 20 aa (i k) then some (i (Classical.choose h : Nat)) else none)
 else none
section
variable {X : Nat -> AV} {op : Nat -> List Nat} {nx : Nat -> Nat -> Nat} {bd : Nat}
theorem cl_opA (l : List Nat) : Cl (opA l) := .sln (cl_map (fun _ => .i) _)
theorem mem9_12 {w : Nat} (h : PurC 12 [X w] (opA (op w))) : mem9 X op nx bd 12 [.ob w 45] = some (opA (op w)) := by
 unfold mem9
 rw [if_pos rfl]
 exact if_pos ⟨rfl, h⟩
theorem mem9_13 {w k : Nat} (h : PurC 13 [X w, i k] (.tup [X (nx w k), i 0])) : mem9 X op nx bd 13 [.ob w 45, i k] = some (.tup [.ob (nx w k) 45, i 0]) := by
 unfold mem9
 rw [if_neg (by decide), if_pos rfl]
 exact if_pos ⟨rfl, h⟩
theorem mem9_19 {w : Nat} (h : PurC 19 [X w] (i bd)) : mem9 X op nx bd 19 [.ob w 45] = some (i bd) := by
 unfold mem9
 rw [if_neg (by decide), if_neg (by decide), if_pos rfl]
 exact if_pos ⟨rfl, h⟩
theorem nodup_getD {L : List Nat} (h : L.Nodup) {a b : Nat} (ha : a < L.length) (hb : b < L.length) (e : L.getD a 0 = L.getD b 0) : a = b := by
 rw [List.getD_eq_getElem?_getD, List.getD_eq_getElem?_getD, List.getElem?_eq_getElem ha, List.getElem?_eq_getElem hb] at e
 have e' : L[a] = L[b] := e
 rcases Nat.lt_trichotomy a b with h1 | h1 | h1
 ·exact absurd e' (List.pairwise_iff_getElem.1 h a b ha hb h1)
 ·exact h1
 ·exact absurd e'.symm (List.pairwise_iff_getElem.1 h b a hb ha h1)
theorem mem9_20 {L : List Nat} {k : Nat} (hn : L.Nodup) (hk : k < L.length) (h : PurC 20 [opA L, i (L.getD k 0 : Nat)] (i k)) : mem9 X op nx bd 20 [opA L, i (L.getD k 0 : Nat)] = some (i k) := by
 unfold mem9
 rw [if_neg (by decide), if_neg (by decide), if_neg (by decide), if_pos rfl]
 have hex : ∃ k' : Nat, ∃ L' : List Nat, [opA L, i (L.getD k 0 : Nat)] = [opA L', i (L'.getD k' 0 : Nat)] /\ L'.Nodup /\ k' < L'.length /\ PurC 20 [opA L, i (L.getD k 0 : Nat)] (i k') := ⟨k, L, rfl, hn, hk, h⟩
 rw [dif_pos hex]
 obtain ⟨L', e, hn', hk', _⟩ := Classical.choose_spec hex
 obtain ⟨e1, e2⟩ := List.cons.inj e
 obtain ⟨e2, _⟩ := List.cons.inj e2
 have := opA_inj e1
 subst this
 rw [AV.int.injEq] at e2
 rw [nodup_getD hn' hk' hk (by omega)]
theorem mem9_9 {aa : List AV} : mem9 X op nx bd 9 aa = none := by
 unfold mem9
 rw [if_neg (by decide), if_neg (by decide), if_neg (by decide), if_neg (by decide)]
theorem instL_1 {C : Nat -> Int} {a : AV} : instL X C [a] = [inst X C a] := by rw [instL_cons, instL_nil]
theorem mem9_ok {C : Nat -> Int} (hX : ∀ k, Ok1 (X k) 45) : ∀ f aa r, mem9 X op nx bd f aa = some r -> PurC f (instL X C aa) (inst X C r) /\ okt X r /\ nrfL aa = true := by
 intro f aa r h
 unfold mem9 at h
 split at h
 ·rename_i hf
  split at h
  ·rename_i w t
   split at h
   ·rename_i hh
    cases h
    obtain ⟨h1, h2⟩ := hh
    rw [h1, hf, instL_1, inst_ob, inst_c (cl_opA _)]
    exact ⟨h2, okt_cl X _ (cl_opA _).ntg, rfl⟩
   ·cases h
  ·cases h
 split at h
 ·rename_i hf
  split at h
  ·rename_i w t k j
   split at h
   ·rename_i hh
    cases h
    obtain ⟨h1, h2⟩ := hh
    rw [h1, hf, instL_cons, instL_1, inst_ob, inst_i, inst_tup, instL_cons, instL_1, inst_ob, inst_i]
    refine ⟨h2, ?_, rfl⟩
    rw [okt, oktL, oktL, oktL, okt, (hX _).lc]
    exact ⟨rfl, okt_cl X _ rfl, trivial⟩
   ·cases h
  ·cases h
 split at h
 ·rename_i hf
  split at h
  ·rename_i w t
   split at h
   ·rename_i hh
    cases h
    obtain ⟨h1, h2⟩ := hh
    rw [h1, hf, instL_1, inst_ob, inst_i]
    exact ⟨h2, okt_cl X _ rfl, rfl⟩
   ·cases h
  ·cases h
 split at h
 ·rename_i hf
  split at h
  ·rename_i hh
   cases h
   obtain ⟨L, h1, _, _, h2⟩ := Classical.choose_spec hh
   have hc : Cl (opA L) := cl_opA L
   have h3 : instL X C aa = aa := by rw [h1, instL_cons, instL_1, inst_c hc, inst_i]
   rw [h3, hf, inst_i]
   refine ⟨h2, okt_cl X _ rfl, ?_⟩
   rw [h1, nrfL, nrfL, nrfL, hc.nrf]; rfl
  ·cases h
 ·cases h
end
theorem tab2_9 : tab2 9 = some f9 := by kernel_rfl
section
variable {X : Nat -> AV} {op : Nat -> List Nat} {nx : Nat -> Nat -> Nat} {bd : Nat}
theorem pur_fin {A : Nat -> Nat -> Prop} {R : Nat -> Prop} (hX : ∀ k, Ok1 (X k) 45) {V : Nat -> Nat -> Prop} (h12 : ∀ {w p : Nat}, V w p -> PurC 12 [X w] (opA (op w))) (hn : ∀ {w p : Nat}, V w p -> (op w).Nodup) (h20 : ∀ {w p : Nat}, V w p -> ∀ {k : Nat}, k < (op w).length -> PurC 20 [opA (op w), i ((op w).getD k 0 : Nat)] (i k))
  (h13 : ∀ {w p : Nat}, V w p -> p < bd -> ∀ {k : Nat}, k < (op w).length -> A w k -> PurC 13 [X w, i k] (.tup [X (nx w k), i 0]) /\ V (nx w k) (p + 1))
  (hbd : bd <= 100000000) {μ : Nat -> Nat} {c w : Nat} (hr : ∀ w p, V w p -> R w -> op w ≠ [] -> ∃ w', Rnd op nx A w (op w) w' /\ R w' /\ μ w' < μ w /\ (op w').length <= c) (hV : V w 0) (hRw : R w) (hcl : (op w).length <= c) (hB : c * μ w <= bd) (hc1 : c <= 100) (hm : μ w < 1000000) (h19 : PurC 19 [X w] (i bd)) :
  ∃ w' p', PurC 9 [X w] (.tup [X w', i (p' : Nat), i 0]) /\ V w' p' /\ op w' = [] := by
 have hG : GXn X := ⟨fun k => (hX k).nrf, fun k => (hX k).ntg, fun k => (hX k).top, fun k => (hX k).tup⟩
 have hc : Call9 (run tab2 (mem9 X op nx bd) 1) bd V op nx A :=
  ⟨fun hV wm n H => run_mem (mem9_12 (h12 hV)), fun hV k hk wm n H => run_mem (mem9_20 (hn hV) hk (h20 hV hk)), fun hV hp k hk hA => ⟨fun wm n H => run_mem (mem9_13 (h13 hV hp hk hA).1), (h13 hV hp hk hA).2⟩⟩
 obtain ⟨w', p', hb, hV', ho⟩ := fin9 hc hbd hr hV hRw hcl hB hc1 hm (fun wm n H => run_mem (mem9_19 h19))
 refine ⟨w', p', ?_, hV', ho⟩
 have hrun : run tab2 (mem9 X op nx bd) 2 9 [.ob w 45] 0 0 [] = some (.tup [.ob w' 45, i (p' : Nat), i 0], 0, []) := (run_body mem9_9 tab2_9).trans hb
 have hk : Knows (QX X C0 hC0) 9 [.ob w 45] (.tup [.ob w' 45, i (p' : Nat), i 0]) := known_of hty tab2_snd (known_fn hG (mem9_ok hX)) hrun rfl
 have hput := Pur.put (X' := X0) (N' := C0) (hN' := hC0) (pur_of hk) hG.gx (by rw [oktL, oktL, okt, (hX w).lc]; exact ⟨rfl, trivial⟩) (instL_nt hG.ntg _) (inst_nt hG.ntg _)
 rw [instL_1, inst_ob, inst_tup, instL_cons, instL_cons, instL_1, inst_ob, inst_i, inst_i] at hput
 exact hput
end
end Go.Proofs.YtgaghaggiblabaaGreatDoor.Ev.T
namespace Go.Proofs.YtgaghaggiblabaaGreatDoor.Ev.T
open Go Go.RowKit
open Mach (S up nxt)
open Classical in
noncomputable def nextW (R : AV -> Prop) (W : AV) : AV := if e : ∃ W', R W' then Classical.choose e else W
theorem nextW_spec {R : AV -> Prop} {W : AV} (h : ∃ W', R W') : R (nextW R W) := by
 unfold nextW
 rw [dif_pos h]
 exact Classical.choose_spec h
theorem nextW_ok {R P : AV -> Prop} {W : AV} (h : ∀ W', R W' -> P W') (hW : P W) : P (nextW R W) := by
 unfold nextW
 split
 ·rename_i e; exact h _ (Classical.choose_spec e)
 ·exact hW
section
variable (live n : Nat) (s0 : S) (W0 : AV) (t0 : Nat)
def stK : List Nat -> S
 | [] => s0
 | k :: h => Mach.step live (mN live n) (stK h) ((opL n (stK h)).getD k 0 - n)
def NxK (h : List Nat) (k : Nat) (W W' : AV) : Prop := PurC 13 [W, i k] (.tup [W', i 0]) /\ WRep live n (stK live n s0 (k :: h)) (t0 + h.length + 1) W'
noncomputable def WK : List Nat -> AV
 | [] => W0
 | k :: h => nextW (NxK live n s0 t0 h k (WK h)) (WK h)
def VK : List Nat -> Prop
 | [] => True
 | k :: h => k < (opL n (stK live n s0 h)).length /\ VK h
end
section
variable {live n : Nat} {s0 : S} {W0 : AV} {t0 : Nat}
theorem WRep.ok {s : S} {t : Nat} {W : AV} (h : WRep live n s t W) : Ok1 W 45 := by
 obtain ⟨ts, lg, hs, hD, rfl⟩ := h
 exact hD.cl
theorem WRep.open (hb : Bd live n) {s : S} {t : Nat} {W : AV} (h : WRep live n s t W) : PurC 12 [W] (opA (opL n s)) := by
 obtain ⟨ts, lg, hs, hD, rfl⟩ := h
 exact hD.open hb
theorem WRep.sane (hb : Bd live n) {s : S} {t : Nat} {W : AV} (h : WRep live n s t W) : PurC 7 [W, setupA live] (.bool true) := by
 obtain ⟨ts, lg, hs, hD, rfl⟩ := h
 exact hD.sane hb
theorem WRep.bound (hb : Bd live n) {s : S} {t : Nat} {W : AV} (h : WRep live n s t W) : PurC 19 [W] (i (boundN (opL n s).length : Nat)) := by
 obtain ⟨ts, lg, hs, hD, rfl⟩ := h
 exact hD.bound hb
theorem wk_ok (hW : Ok1 W0 45) : ∀ h, Ok1 (WK live n s0 W0 t0 h) 45
 | [] => hW
 | k :: h => by
  exact nextW_ok (R := NxK live n s0 t0 h k (WK live n s0 W0 t0 h)) (P := fun W => Ok1 W 45) (fun W' h' => h'.2.ok) (wk_ok hW h)
theorem vk_rep (hb : Bd live n) (h0 : Mach.Inv live n (mN live n) s0) (hW : WRep live n s0 t0 W0) (ht : 1 <= t0) : ∀ {h : List Nat}, VK live n s0 h -> t0 + h.length <= 100000000 -> Mach.Inv live n (mN live n) (stK live n s0 h) /\ WRep live n (stK live n s0 h) (t0 + h.length) (WK live n s0 W0 t0 h)
 | [], _, _ => ⟨h0, hW⟩
 | k :: h, hv, hl => by
  rw [List.length_cons] at hl
  obtain ⟨g1, g2⟩ := vk_rep hb h0 hW ht hv.2 (by omega)
  obtain ⟨q, hq, hd, he⟩ := opL_at hv.1
  have hst : stK live n s0 (k :: h) = Mach.step live (mN live n) (stK live n s0 h) q := by
   show Mach.step live (mN live n) (stK live n s0 h) ((opL n (stK live n s0 h)).getD k 0 - n) = _
   rw [he, show n + q - n = q by omega]
  refine ⟨by rw [hst]; exact g1.step hb.l1 (sum_m hb) hq, ?_⟩
  have hex : ∃ W', NxK live n s0 t0 h k (WK live n s0 W0 t0 h) W' := by
   obtain ⟨W', h1, h2⟩ := pick_rep hb g1 g2 (by omega) (by omega) hv.1 he
   exact ⟨W', h1, by rw [hst]; exact h2⟩
  exact (nextW_spec (W := WK live n s0 W0 t0 h) hex).2
theorem vk_pick (hb : Bd live n) (h0 : Mach.Inv live n (mN live n) s0) (hW : WRep live n s0 t0 W0) (ht : 1 <= t0) {k : Nat} {h : List Nat} (hv : VK live n s0 (k :: h)) (hl : t0 + h.length + 1 <= 100000000) : PurC 13 [WK live n s0 W0 t0 h, i k] (.tup [WK live n s0 W0 t0 (k :: h), i 0]) := by
 obtain ⟨g1, g2⟩ := vk_rep hb h0 hW ht hv.2 (by omega)
 obtain ⟨q, hq, hd, he⟩ := opL_at hv.1
 have hst : stK live n s0 (k :: h) = Mach.step live (mN live n) (stK live n s0 h) q := by
  show Mach.step live (mN live n) (stK live n s0 h) ((opL n (stK live n s0 h)).getD k 0 - n) = _
  rw [he, show n + q - n = q by omega]
 have hex : ∃ W', NxK live n s0 t0 h k (WK live n s0 W0 t0 h) W' := by
  obtain ⟨W', h1, h2⟩ := pick_rep hb g1 g2 (by omega) (by omega) hv.1 he
  exact ⟨W', h1, by rw [hst]; exact h2⟩
 exact (nextW_spec (W := WK live n s0 W0 t0 h) hex).1
theorem vk_lt (hb : Bd live n) : ∀ {h : List Nat}, VK live n s0 h -> ∀ d, d ∈ h -> d < 6
 | [], _, _, hd => by cases hd
 | k :: h, hv, d, hd => by
  rcases List.mem_cons.1 hd with rfl | hd
  ·have := hv.1; have := opL_len n (stK live n s0 h); have := hb.n6; omega
  ·exact vk_lt hb hv.2 d hd
theorem opL_cnt (n : Nat) (s : S) : (opL n s).length = Mach.cnt (fun j => !Mach.isDone (s.loc j)) n := by
 unfold opL openL
 rw [dlOf_len, List.range_add, List.filter_append, List.length_append]
 have e1 : (List.range n).filter (fun j => !dnB n (dlOf n s) j) = [] := List.filter_eq_nil_iff.2 fun j hj => by
  rw [dnB_lo (List.mem_range.1 hj)]; exact fun h => by cases h
 rw [e1, List.length_nil, Nat.zero_add, List.filter_map, List.length_map]
 have key : ∀ m, m <= n -> ((List.range m).filter ((fun j => !dnB n (dlOf n s) j) ∘ (n + ·))).length = Mach.cnt (fun j => !Mach.isDone (s.loc j)) m := by
  intro m
  induction m with
  | zero => intro _; rfl
  | succ m ih =>
   intro hm
   rw [List.range_succ, List.filter_append, List.length_append, ih (by omega)]
   show _ = Mach.cnt (fun j => !Mach.isDone (s.loc j)) m + (if (!Mach.isDone (s.loc m)) = true then 1 else 0)
   congr 1
   show ((List.filter _ [m])).length = _
   rw [List.filter_cons]
   show (if (!dnB n (dlOf n s) (n + m)) = true then _ else _ : List Nat).length = _
   rw [dnB_hi, dlOf_get (by omega)]
   cases Mach.isDone (s.loc m) <;> rfl
 exact key n (Nat.le_refl n)
theorem done_step {m : Nat -> Nat} {s : S} {q j : Nat} (h : Mach.isDone (s.loc j) = true) : Mach.isDone ((Mach.step live m s q).loc j) = true := by
 by_cases e : j = q
 ·subst e
  have : Mach.step live m s j = s := by
   unfold Mach.step
   cases hl : s.loc j with
   | done c k x => rfl
   | _ => rw [hl] at h; cases h
  rw [this]; exact h
 ·rw [Mach.step_loc e]; exact h
theorem opL_mono : ∀ h : List Nat, (opL n (stK live n s0 h)).length <= (opL n s0).length
 | [] => Nat.le_refl _
 | k :: h => by
  refine Nat.le_trans ?_ (opL_mono h)
  rw [opL_cnt, opL_cnt]
  refine Mach.cnt_mono fun j _ hj => ?_
  cases e : Mach.isDone ((stK live n s0 h).loc j) with
  | false => rfl
  | true => rw [show Mach.isDone ((stK live n s0 (k :: h)).loc j) = true from done_step e] at hj; cases hj
theorem total_le (hb : Bd live n) (s : S) : Mach.total live n s <= 48 * (opL n s).length := by
 rw [opL_cnt]
 unfold Mach.total
 have key : ∀ m, Mach.sumN (fun j => Mach.rk live (s.loc j)) m <= 48 * Mach.cnt (fun j => !Mach.isDone (s.loc j)) m := by
  intro m
  induction m with
  | zero => exact Nat.le_refl _
  | succ m ih =>
   show Mach.sumN (fun j => Mach.rk live (s.loc j)) m + Mach.rk live (s.loc m) <= 48 * (Mach.cnt (fun j => !Mach.isDone (s.loc j)) m + (if (!Mach.isDone (s.loc m)) = true then 1 else 0))
   cases e : Mach.isDone (s.loc m) with
   | true =>
    have : Mach.rk live (s.loc m) = 0 := by
     cases hl : s.loc m with
     | done c k j => rfl
     | _ => rw [hl] at e; cases e
    rw [this]
    show _ <= 48 * (_ + 0)
    omega
   | false =>
    have := Mach.rk_le hb.l3 (s.loc m)
    show _ <= 48 * (_ + 1)
    omega
 exact key n
def opK (live n : Nat) (s0 : S) (w : Nat) : List Nat := opL n (stK live n s0 (decL w))
def nxK (w k : Nat) : Nat := 16 * w + k + 1
theorem nxK_enc {h : List Nat} {k : Nat} : nxK (encL h) k = encL (k :: h) := rfl
theorem dec_k (hb : Bd live n) {h : List Nat} (hv : VK live n s0 h) : decL (encL h) = h := dec_enc fun d hd => by have := vk_lt hb hv d hd; omega
theorem rnd_of (hb : Bd live n) : ∀ {qs : List Nat} {h : List Nat}, VK live n s0 h -> qs.Nodup -> (∀ q, q ∈ qs -> q < n /\ Mach.isDone ((stK live n s0 h).loc q) = false) -> ∃ h', Rnd (opK live n s0) nxK (fun _ _ => True) (encL h) (qs.map (n + ·)) (encL h') /\ stK live n s0 h' = Mach.steps live (mN live n) (stK live n s0 h) qs /\ VK live n s0 h'
 | [], h, hv, _, _ => ⟨h, .nil, rfl, hv⟩
 | q :: qs, h, hv, hnd, hq => by
  obtain ⟨h1, h2⟩ := hq q List.mem_cons_self
  obtain ⟨hnm, hnd'⟩ := List.nodup_cons.1 hnd
  obtain ⟨k, hk, hke⟩ := List.getElem_of_mem (opL_mem.2 ⟨q, h1, h2, rfl⟩ : n + q ∈ opL n (stK live n s0 h))
  have hg : (opL n (stK live n s0 h)).getD k 0 = n + q := by rw [List.getD_eq_getElem?_getD, List.getElem?_eq_getElem hk]; exact hke
  have hst : stK live n s0 (k :: h) = Mach.step live (mN live n) (stK live n s0 h) q := by
   show Mach.step live (mN live n) (stK live n s0 h) ((opL n (stK live n s0 h)).getD k 0 - n) = _
   rw [hg, show n + q - n = q by omega]
  obtain ⟨h', r1, r2, r3⟩ := rnd_of hb (qs := qs) (h := k :: h) ⟨hk, hv⟩ hnd' (fun r hr => by
   obtain ⟨g1, g2⟩ := hq r (List.mem_cons_of_mem _ hr)
   refine ⟨g1, ?_⟩
   rw [hst, Mach.step_loc (by rintro rfl; exact hnm hr)]; exact g2)
  refine ⟨h', ?_, ?_, r3⟩
  ·refine .cons (k := k) ?_ trivial ?_ r1
   ·unfold opK; rw [dec_k hb hv]; exact hk
   ·unfold opK; rw [dec_k hb hv]; exact hg
  ·rw [r2, hst]; rfl
theorem bound_c : ∀ c, c < 7 -> c * (48 * c) <= boundN c /\ boundN c <= 100000 := by decide
theorem fin_rep (hb : Bd live n) (h0 : Mach.Inv live n (mN live n) s0) (hW : WRep live n s0 t0 W0) (ht : 1 <= t0) (ht2 : t0 <= 1000000) :
  ∃ W' s' t' p', PurC 9 [W0] (.tup [W', i (p' : Nat), i 0]) /\ Mach.Inv live n (mN live n) s' /\ WRep live n s' t' W' /\ opL n s' = [] := by
 have hbn6 := hb.n6
 have hc6 := opL_len n s0
 obtain ⟨bc1, bc2⟩ := bound_c (opL n s0).length (by omega)
 let X : Nat -> AV := fun w => WK live n s0 W0 t0 (decL w)
 have hX : ∀ k, Ok1 (X k) 45 := fun k => wk_ok hW.ok _
 let V : Nat -> Nat -> Prop := fun w p => ∃ h, w = encL h /\ VK live n s0 h /\ h.length = p /\ p <= boundN (opL n s0).length
 have hXe : ∀ {h : List Nat}, VK live n s0 h -> X (encL h) = WK live n s0 W0 t0 h := fun {h} hv => by show WK live n s0 W0 t0 (decL (encL h)) = _; rw [dec_k hb hv]
 have hoe : ∀ {h : List Nat}, VK live n s0 h -> opK live n s0 (encL h) = opL n (stK live n s0 h) := fun {h} hv => by unfold opK; rw [dec_k hb hv]
 have hV0 : V (encL []) 0 := ⟨[], rfl, trivial, rfl, Nat.zero_le _⟩
 have hx0 : X (encL []) = W0 := hXe (h := []) trivial
 have ho0 : opK live n s0 (encL []) = opL n s0 := hoe (h := []) trivial
 obtain ⟨w', p', hp, ⟨h', rfl, hv', hl', hpb⟩, hop⟩ := pur_fin (A := fun _ _ => True) (R := fun _ => True) (X := X) (op := opK live n s0) (nx := nxK) (bd := boundN (opL n s0).length) hX (V := V)
  (fun {w p} hV => by
   obtain ⟨h, rfl, hv, hl, hpb⟩ := hV
   rw [hXe hv, hoe hv]
   exact (vk_rep hb h0 hW ht hv (by omega)).2.open hb)
  (fun {w p} hV => by
   obtain ⟨h, rfl, hv, hl, hpb⟩ := hV
   rw [hoe hv]
   exact opL_nodup _ _)
  (fun {w p} hV k hk => by
   obtain ⟨h, rfl, hv, hl, hpb⟩ := hV
   rw [hoe hv] at hk ⊢
   exact pur_index (cIndex_ok hb.n1 hb.n6 (dlOf_len n _)) hk)
  (fun {w p} hV hp k hk _ => by
   obtain ⟨h, rfl, hv, hl, hpb⟩ := hV
   rw [hoe hv] at hk
   have hv' : VK live n s0 (k :: h) := ⟨hk, hv⟩
   rw [nxK_enc, hXe hv, hXe hv']
   exact ⟨vk_pick hb h0 hW ht hv' (by omega), k :: h, rfl, hv', by rw [List.length_cons, hl], by omega⟩)
  (by omega) (μ := fun w => Mach.total live n (stK live n s0 (decL w))) (c := (opL n s0).length) (w := encL [])
  (fun w p hV _ ho => by
   obtain ⟨h, rfl, hv, hl, hpb⟩ := hV
   rw [hoe hv] at ho ⊢
   obtain ⟨g1, g2⟩ := vk_rep hb h0 hW ht hv (by omega)
   let qs := (opL n (stK live n s0 h)).map (· - n)
   have hback : qs.map (n + ·) = opL n (stK live n s0 h) := by
    show ((opL n (stK live n s0 h)).map (· - n)).map (n + ·) = _
    rw [List.map_map]
    refine (List.map_congr_left fun x hx => ?_).trans (List.map_id _)
    obtain ⟨q, _, _, rfl⟩ := opL_mem.1 hx
    show n + (n + q - n) = id (n + q)
    show n + (n + q - n) = n + q
    omega
   have hnd : qs.Nodup := by
    have := opL_nodup n (stK live n s0 h)
    rw [<- hback] at this
    exact List.Pairwise.of_map _ (fun a b hab => fun e => hab (by rw [e])) this
   have hqs : ∀ q, q ∈ qs -> q < n /\ Mach.isDone ((stK live n s0 h).loc q) = false := fun q hq => by
    obtain ⟨x, hx, rfl⟩ := List.mem_map.1 hq
    obtain ⟨q, h1, h2, rfl⟩ := opL_mem.1 hx
    rw [show n + q - n = q by omega]
    exact ⟨h1, h2⟩
   obtain ⟨h', r1, r2, r3⟩ := rnd_of hb hv hnd hqs
   rw [hback] at r1
   refine ⟨encL h', r1, trivial, ?_, ?_⟩
   ·show Mach.total live n (stK live n s0 (decL (encL h'))) < Mach.total live n (stK live n s0 (decL (encL h)))
    rw [dec_k hb hv, dec_k hb r3, r2]
    refine (Mach.steps_total hb.l1 (sum_m hb) g1 hnd hqs).2.2 ?_
    obtain ⟨x, hx⟩ := List.exists_mem_of_ne_nil _ ho
    obtain ⟨q, h1, h2, rfl⟩ := opL_mem.1 hx
    obtain ⟨j, hj, hjd, hjs⟩ := Mach.some_moves g1 h1 h2
    exact ⟨j, List.mem_map.2 ⟨n + j, opL_mem.2 ⟨j, hj, hjd, rfl⟩, by omega⟩, hjs⟩
   ·rw [hoe r3]; exact opL_mono h')
  hV0 trivial (by rw [ho0]; exact Nat.le_refl _)
  (by
   show (opL n s0).length * Mach.total live n (stK live n s0 (decL (encL []))) <= _
   rw [dec_k hb (s0 := s0) (h := []) trivial]
   exact Nat.le_trans (Nat.mul_le_mul_left _ (total_le hb s0)) bc1)
  (by omega)
  (by
   show Mach.total live n (stK live n s0 (decL (encL []))) < _
   rw [dec_k hb (s0 := s0) (h := []) trivial]
   have : Mach.total live n s0 <= 48 * (opL n s0).length := total_le hb s0
   show Mach.total live n s0 < _
   omega)
  (by rw [hx0]; exact hW.bound hb)
 rw [hoe hv'] at hop
 obtain ⟨g1, g2⟩ := vk_rep hb h0 hW ht hv' (by omega)
 rw [hx0, hXe hv'] at hp
 exact ⟨_, _, _, p', hp, g1, g2, hop⟩
end
end Go.Proofs.YtgaghaggiblabaaGreatDoor.Ev.T
namespace Go.Proofs.YtgaghaggiblabaaGreatDoor.Ev.T
open Go Go.RowKit
open Mach (S up nxt)
noncomputable def allq (rec : AV -> Bool) (l : List AV) : Bool := List.rec true (fun a _ ih => and' (rec a) ih) l
noncomputable def ntq : Nat -> AV -> Bool := Nat.rec (fun _ => false) fun _ rec a => match a with
 | .int .. => true | .bool _ => true | .str _ => true | .nilp => true | .sn => true | .nilf => true | .nilm => true
 | .sv l _ => allq rec l | .agg _ l => allq rec l | _ => false
theorem allq_mem {rec : AV -> Bool} : ∀ {l : List AV}, allq rec l = true -> ∀ a, a ∈ l -> rec a = true
 | [], _, _, h => by cases h
 | x :: l, h, a, ha => by
  obtain ⟨h1, h2⟩ := and'_ok h
  rcases List.mem_cons.1 ha with rfl | ha
  ·exact h1
  ·exact allq_mem (l := l) h2 a ha
theorem ntq_ok : ∀ (n : Nat) (a : AV), ntq n a = true -> Cl a
 | 0, _, h => by cases h
 | n + 1, a, h => by
  cases a with
  | sv l f => exact .sv fun x hx => ntq_ok n x (allq_mem (rec := ntq n) h x hx)
  | agg t l => exact .agg fun x hx => ntq_ok n x (allq_mem (rec := ntq n) h x hx)
  | int k m => exact ⟨rfl, rfl⟩
  | bool b => exact ⟨rfl, rfl⟩
  | str s => exact ⟨rfl, rfl⟩
  | nilp => exact ⟨rfl, rfl⟩
  | sn => exact ⟨rfl, rfl⟩
  | nilf => exact ⟨rfl, rfl⟩
  | nilm => exact ⟨rfl, rfl⟩
  | _ => cases h
theorem fzl_id {α : Type} {rec : AV -> (AV -> Option α) -> Option α} : ∀ {l : List AV}, (∀ a, a ∈ l -> ∀ k, rec a k = k a) -> ∀ k : List AV -> Option α, fzl rec l k = k l
 | [], _, _ => rfl
 | x :: l, h, k => by
  show rec x (fun y => fzl rec l fun r => k (y :: r)) = _
  rw [h x List.mem_cons_self, fzl_id (fun a ha => h a (List.mem_cons_of_mem _ ha))]
theorem fzq {α : Type} : ∀ (n : Nat) (a : AV), ntq n a = true -> ∀ {m : Nat}, n <= m -> ∀ k : AV -> Option α, fz 0 [] m true a k = k a
 | 0, _, h => by cases h
 | n + 1, a, h => by
  intro hm k
  rename_i m
  obtain ⟨m, rfl⟩ : ∃ m', m = m' + 1 := ⟨m - 1, by omega⟩
  cases a with
  | agg t l =>
   show fzl (fz 0 [] m true) l (fun r => k (.agg t r)) = _
   rw [fzl_id fun a ha k => fzq n a (allq_mem (rec := ntq n) h a ha) (by omega) k]
  | sv l f => rfl
  | int _ _ => rfl
  | bool _ => rfl
  | str _ => rfl
  | nilp => rfl
  | sn => rfl
  | nilf => rfl
  | nilm => rfl
  | _ => cases h
theorem asq {l : List AV} (h : ∀ a, a ∈ l -> ntq 40 a = true) : fzl (fz 0 [] 60 true) l some = some l := fzl_id (fun a ha k => fzq 40 a (h a ha) (by decide) k) some
theorem pur_run {f : Nat} {l : List AV} {r : AV} (h : run tab2 (memOf []) 300 f l 0 0 [] = some (r, 0, [])) (hl : ∀ a, a ∈ l -> ntq 40 a = true) : PurC f l r :=
 pur_of (known_of hty tab2_snd (known_list fun _ h => by cases h) h (asq hl))
noncomputable def tup1 (a : AV) : Option AV := match a with
 | .tup l => (match l with | x :: r => Bool.rec none (some x) (avl (avlf 60) r [i 0]) | [] => none)
 | _ => none
noncomputable def pk1 (W : AV) (k : Nat) : Option AV := match run tab2 (memOf []) 300 13 [W, i k] 0 0 [] with
 | some q => (match q.2.2 with | [] => Bool.rec none (tup1 q.1) (Nat.beq q.2.1 0) | _ => none)
 | none => none
noncomputable def chk (pl : List (List Nat × Nat)) : AV -> AV -> Bool := List.rec (fun W We => avlf 60 W We) (fun p _ ih W We => and' (and' (ntq 40 W) (Nat.beq (lc W) 45)) (and' (okr (run tab2 (memOf []) 300 12 [W] 0 0 []) (opA p.1)) (match pk1 W p.2 with | some W' => ih W' We | none => false))) pl
inductive Ch : AV -> List (List Nat × Nat) -> AV -> Prop
 | nil {W : AV} : Ch W [] W
 | cons {W W' We : AV} {p : List Nat × Nat} {pl : List (List Nat × Nat)} : Ok1 W 45 -> PurC 12 [W] (opA p.1) -> PurC 13 [W, i p.2] (.tup [W', i 0]) -> Ch W' pl We -> Ch W (p :: pl) We
theorem Ch.app {W Wm We : AV} {p q : List (List Nat × Nat)} (h : Ch W p Wm) (h2 : Ch Wm q We) : Ch W (p ++ q) We := by
 induction h with
 | nil => exact h2
 | cons a b c _ ih => exact .cons a b c (ih h2)
theorem avl_i0 {r : List AV} (h : avl (avlf 60) r [i 0] = true) : r = [i 0] := by
 cases r with
 | nil => cases h
 | cons x r =>
  obtain ⟨h1, h2⟩ := and'_ok h
  cases r with
  | cons y r => cases h2
  | nil =>
   cases x <;> first | (cases h1; done) | skip
   obtain ⟨h3, h4⟩ := and'_ok h1
   rw [beqI_eq, beq_iff_eq] at h4
   rw [h4, <- keq_ok h3]
theorem pk1_ok {W W' : AV} {k : Nat} (h : pk1 W k = some W') (hW : ntq 40 W = true) : PurC 13 [W, i k] (.tup [W', i 0]) := by
 unfold pk1 at h
 split at h
 ·rename_i q e
  split at h
  ·rename_i hq
   cases hb : Nat.beq q.2.1 0 with
   | false => rw [hb] at h; cases h
   | true =>
    rw [hb] at h
    replace h : tup1 q.1 = some W' := h
    unfold tup1 at h
    split at h
    ·rename_i l hl
     cases l with
     | nil => cases h
     | cons x r =>
      replace h : (Bool.rec none (some x) (avl (avlf 60) r [i 0]) : Option AV) = some W' := h
      cases hr : avl (avlf 60) r [i 0] with
      | false => rw [hr] at h; cases h
      | true =>
       rw [hr] at h
       cases h
       have hr := avl_i0 hr
       subst hr
       have : q = (.tup [W', i 0], 0, []) := by
        obtain ⟨a, b, c⟩ := q
        replace hq : c = [] := hq
        replace hl : a = .tup [W', i 0] := hl
        rw [hq, hl, show b = 0 from beq_true.1 hb]
       rw [this] at e
       exact pur_run e fun a ha => by
        rcases List.mem_cons.1 ha with rfl | ha
        ·exact hW
        ·rw [List.mem_singleton.1 ha]; rfl
    ·cases h
  ·cases h
 ·cases h
theorem ok_q {W : AV} (h : and' (ntq 40 W) (Nat.beq (lc W) 45) = true) : Ok1 W 45 := by
 obtain ⟨h1, h2⟩ := and'_ok h
 have hc := ntq_ok 40 W h1
 refine ⟨hc.nrf, hc.ntg, fun e => ?_, fun l e => ?_, beq_true.1 h2⟩
 ·subst e; cases h2
 ·subst e; cases h2
theorem chk_ok : ∀ {pl : List (List Nat × Nat)} {W We : AV}, chk pl W We = true -> pl ≠ [] -> Ok1 We 45 -> Ch W pl We
 | [], _, _, _, h, _ => absurd rfl h
 | p :: pl, W, We, h, _, hE => by
  replace h : and' (and' (ntq 40 W) (Nat.beq (lc W) 45)) (and' (okr (run tab2 (memOf []) 300 12 [W] 0 0 []) (opA p.1)) (match pk1 W p.2 with | some W' => chk pl W' We | none => false)) = true := h
  obtain ⟨h1, h2⟩ := and'_ok h
  obtain ⟨h2, h3⟩ := and'_ok h2
  have hW := (and'_ok h1).1
  obtain ⟨a, e1, e2⟩ := okr_ok h2
  have h12 : PurC 12 [W] (opA p.1) := (pur_run e1 fun a ha => by rw [List.mem_singleton.1 ha]; exact hW).le e2
  split at h3
  ·rename_i W' e
   have h13 := pk1_ok e hW
   by_cases hp : pl = []
   ·subst hp
    replace h3 : avlf 60 W' We = true := h3
    refine .cons (ok_q h1) h12 (h13.le ?_) .nil
    show avl (avlf 60) [W', i 0] [We, i 0] = true
    show and' (avlf 60 W' We) _ = true
    rw [h3]; rfl
   ·exact .cons (ok_q h1) h12 h13 (chk_ok h3 hp hE)
  ·cases h3
theorem Ch.seq {W We : AV} {pl : List (List Nat × Nat)} (h : Ch W pl We) (hE : Ok1 We 45) : ∃ X : Nat -> AV, X 0 = W /\ X pl.length = We /\ (∀ t, t < pl.length -> PurC 12 [X t] (opA (pl.getD t ([], 0)).1) /\ PurC 13 [X t, i ((pl.getD t ([], 0)).2 : Nat)] (.tup [X (t + 1), i 0])) /\ ∀ t, Ok1 (X t) 45 := by
 induction h with
 | @nil W => exact ⟨fun _ => W, rfl, rfl, fun t ht => absurd ht (Nat.not_lt_zero t), fun _ => hE⟩
 | @cons W W' We p pl a b c _ ih =>
  obtain ⟨X, h0, h1, h2, h3⟩ := ih hE
  refine ⟨fun t => match t with | 0 => W | t + 1 => X t, rfl, h1, fun t ht => ?_, fun t => ?_⟩
  ·cases t with
   | zero => exact ⟨b, by show PurC 13 [W, i p.2] (.tup [X 0, i 0]); rw [h0]; exact c⟩
   | succ t => exact h2 t (by simpa using ht)
  ·cases t with
   | zero => exact a
   | succ t => exact h3 t
def opT (e : List Nat) (n t : Nat) : List Nat := (List.range n).filter fun j => Nat.blt t (e.getD j 0)
def idxN (x : Nat) : List Nat -> Nat
 | [] => 0
 | y :: l => bif Nat.beq x y then 0 else idxN x l + 1
def goF (e : List Nat) (n : Nat) : List Nat -> Nat -> List (List Nat × Nat)
 | [], _ => []
 | x :: l, t => (opT e n t, idxN x (opT e n t)) :: goF e n l (t + 1)
def planF (e : List Nat) (n : Nat) : Nat -> Nat -> List (List Nat × Nat)
 | 0, _ => []
 | f + 1, t => match opT e n t with
  | [] => []
  | x :: l => goF e n (x :: l) t ++ planF e n f (t + (l.length + 1))
def planS (live n : Nat) : List (List Nat × Nat) := planF (endedN live n) n 80 0
def rok (pl : List (List Nat × Nat)) : Nat -> List Nat -> Bool
 | _, [] => true
 | t, x :: l => (Nat.blt (pl.getD t ([], 0)).2 (pl.getD t ([], 0)).1.length && Nat.beq ((pl.getD t ([], 0)).1.getD (pl.getD t ([], 0)).2 0) x) && rok pl (t + 1) l
def rall (pl : List (List Nat × Nat)) : Nat -> Nat -> Bool
 | 0, _ => false
 | f + 1, t => match (pl.getD t ([], 0)).1 with
  | [] => true
  | x :: l => rok pl t (x :: l) && rall pl f (t + (l.length + 1))
def subsN : Nat -> List (List Nat)
 | 0 => [[]]
 | n + 1 => subsN n ++ (subsN n).map (· ++ [n])
def eqL : List Nat -> List Nat -> Bool
 | [], [] => true
 | x :: l, y :: m => Nat.beq x y && eqL l m
 | _, _ => false
theorem eqL_ok : ∀ {l m : List Nat}, eqL l m = true -> l = m
 | [], [], _ => rfl
 | [], _ :: _, h => by cases h
 | _ :: _, [], h => by cases h
 | x :: l, y :: m, h => by
  rw [eqL, Bool.and_eq_true] at h
  rw [Nat.eq_of_beq_eq_true h.1, eqL_ok h.2]
def okP (n : Nat) (p : List Nat × Nat) : Bool := (Nat.ble p.1.length n && Nat.blt 0 p.1.length) && (subsN 6).any (eqL p.1)
def okS (live n : Nat) : Bool := ((planS live n).all (okP n) && rall (planS live n) 80 0) && (Nat.beq (planS live n).length (stepsN live n) && Nat.ble (n * stepsN live n) (boundN n))
noncomputable def cIdx (L : List Nat) : Bool := (List.range L.length).all fun k => rn [] 20 [opA L, i (L.getD k 0 : Nat)] (i k)
noncomputable def allIdx : Bool := (subsN 6).all cIdx
def nodupB : List Nat -> Bool
 | [] => true
 | x :: l => !(l.any (Nat.beq x)) && nodupB l
theorem nodupB_ok : ∀ {l : List Nat}, nodupB l = true -> l.Nodup
 | [], _ => .nil
 | x :: l, h => by
  rw [nodupB, Bool.and_eq_true] at h
  refine List.nodup_cons.2 ⟨fun hx => ?_, nodupB_ok h.2⟩
  have : l.any (Nat.beq x) = true := List.any_eq_true.2 ⟨x, hx, Nat.beq_refl x⟩
  rw [this] at h
  cases h.1
theorem rnd_ok {pl : List (List Nat × Nat)} : ∀ {l : List Nat} {t : Nat}, rok pl t l = true -> Rnd (fun t => (pl.getD t ([], 0)).1) (fun t _ => t + 1) (fun t k => k = (pl.getD t ([], 0)).2) t l (t + l.length)
 | [], _, _ => .nil
 | x :: l, t, h => by
  rw [rok, Bool.and_eq_true, Bool.and_eq_true] at h
  obtain ⟨⟨h1, h2⟩, h3⟩ := h
  refine .cons (k := (pl.getD t ([], 0)).2) (Nat.le_of_ble_eq_true h1) rfl (Nat.eq_of_beq_eq_true h2) ?_
  rw [List.length_cons, show t + (l.length + 1) = t + 1 + l.length by omega]
  exact rnd_ok h3
theorem rok_len {pl : List (List Nat × Nat)} : ∀ {l : List Nat} {t : Nat}, rok pl t l = true -> l ≠ [] -> t + l.length <= pl.length
 | [], _, _, h => absurd rfl h
 | x :: l, t, h, _ => by
  rw [rok, Bool.and_eq_true, Bool.and_eq_true] at h
  obtain ⟨⟨h1, h2⟩, h3⟩ := h
  have ht : t < pl.length := by
   rcases Nat.lt_or_ge t pl.length with h | h
   ·exact h
   ·rw [List.getD_eq_getElem?_getD, List.getElem?_eq_none h] at h1; cases h1
  by_cases hl : l = []
  ·subst hl; show t + 1 <= _; omega
  ·have := rok_len h3 hl
   rw [List.length_cons]; omega
theorem fin_sends {live n : Nat} (hn1 : 1 <= n) (hn6 : n <= 6) (hch : Ch (wsA live n) (planS live n) (w1A live n)) (hok : okS live n = true) (hw : Ok1 (w1A live n) 45) (h19 : PurC 19 [wsA live n] (i (boundN n : Nat))) (h12e : PurC 12 [w1A live n] (opA [])) (hidx : allIdx = true) (hnd : (subsN 6).all nodupB = true) (hbn : boundN n <= 100000000) :
  ∃ p' : Nat, PurC 9 [wsA live n] (.tup [w1A live n, i p', i 0]) := by
 obtain ⟨X, x0, xe, hx, hX⟩ := hch.seq hw
 unfold okS at hok
 rw [Bool.and_eq_true, Bool.and_eq_true, Bool.and_eq_true] at hok
 obtain ⟨⟨hp, hr⟩, hlen, hB⟩ := hok
 replace hlen := Nat.eq_of_beq_eq_true hlen
 replace hB := Nat.le_of_ble_eq_true hB
 generalize planS live n = pl at *
 have hlt : ∀ t, (pl.getD t ([], 0)).1 ≠ [] -> t < pl.length := fun t h => by
  rcases Nat.lt_or_ge t pl.length with h' | h'
  ·exact h'
  ·rw [List.getD_eq_getElem?_getD, List.getElem?_eq_none h'] at h; exact absurd rfl h
 have hpt : ∀ t, t < pl.length -> okP n (pl.getD t ([], 0)) = true := fun t ht => by
  rw [List.getD_eq_getElem?_getD, List.getElem?_eq_getElem ht]
  exact List.all_eq_true.1 hp _ (List.getElem_mem ht)
 have hsub : ∀ t, (pl.getD t ([], 0)).1 ∈ subsN 6 := fun t => by
  by_cases ht : t < pl.length
  ·have := hpt t ht
   unfold okP at this
   rw [Bool.and_eq_true] at this
   obtain ⟨L, hL, e⟩ := List.any_eq_true.1 this.2
   rw [eqL_ok e]; exact hL
  ·rw [List.getD_eq_getElem?_getD, List.getElem?_eq_none (by omega)]
   decide
 have hend : (pl.getD pl.length ([], 0)).1 = [] := by rw [List.getD_eq_getElem?_getD, List.getElem?_eq_none (Nat.le_refl _)]; rfl
 obtain ⟨w', p', h1, ⟨h2, h3⟩, h4⟩ := pur_fin (X := X) (op := fun t => (pl.getD t ([], 0)).1) (nx := fun t _ => t + 1) (bd := boundN n) (A := fun t k => k = (pl.getD t ([], 0)).2) (R := fun t => ∃ f, rall pl f t = true) hX (V := fun t p => t = p /\ p <= pl.length)
  (fun {w p} hV => by
   obtain ⟨rfl, hV⟩ := hV
   rcases Nat.lt_or_ge w pl.length with h | h
   ·exact (hx w h).1
   ·have : w = pl.length := by omega
    subst this
    show PurC 12 [X pl.length] (opA (pl.getD pl.length ([], 0)).1)
    rw [xe, hend]; exact h12e)
  (fun {w p} hV => nodupB_ok (all_mem hnd (hsub w)))
  (fun {w p} hV k hk => rn_cl (all_r (all_mem hidx (hsub w)) hk) .nil (by rw [ntgL, (cl_opA _).ntg, ntgL, ntgL]; rfl) rfl)
  (fun {w p} hV hpb k hk hA => by
   obtain ⟨rfl, hV⟩ := hV
   have hl := hlt w (by intro e; rw [e] at hk; cases hk)
   replace hA : k = (pl.getD w ([], 0)).2 := hA
   rw [hA]
   exact ⟨(hx w hl).2, rfl, hl⟩)
  hbn (μ := fun t => pl.length - t) (c := n) (w := 0)
  (fun w p hV hR ho => by
   obtain ⟨f, hf⟩ := hR
   cases f with
   | zero => cases hf
   | succ f =>
    rw [rall] at hf
    split at hf
    ·rename_i e; exact absurd e ho
    ·rename_i x l e
     rw [Bool.and_eq_true] at hf
     have hl := rok_len hf.1 (by simp)
     rw [List.length_cons] at hl
     refine ⟨w + (x :: l).length, ?_, ⟨f, hf.2⟩, ?_, ?_⟩
     ·show Rnd _ _ _ w (pl.getD w ([], 0)).1 _
      rw [e]
      exact rnd_ok hf.1
     ·show pl.length - (w + (x :: l).length) < pl.length - w
      rw [List.length_cons]; omega
     ·show (pl.getD (w + (x :: l).length) ([], 0)).1.length <= n
      by_cases ht : w + (x :: l).length < pl.length
      ·have := hpt _ ht
       unfold okP at this
       rw [Bool.and_eq_true, Bool.and_eq_true] at this
       exact Nat.le_of_ble_eq_true this.1.1
      ·rw [List.getD_eq_getElem?_getD, List.getElem?_eq_none (by omega)]; exact Nat.zero_le _)
  ⟨rfl, Nat.zero_le _⟩ ⟨_, hr⟩
  (by
   show (pl.getD 0 ([], 0)).1.length <= n
   by_cases ht : 0 < pl.length
   ·have := hpt _ ht
    unfold okP at this
    rw [Bool.and_eq_true, Bool.and_eq_true] at this
    exact Nat.le_of_ble_eq_true this.1.1
   ·rw [List.getD_eq_getElem?_getD, List.getElem?_eq_none (by omega)]; exact Nat.zero_le _)
  (by show n * (pl.length - 0) <= _; rw [Nat.sub_zero, hlen]; exact hB)
  (by omega)
  (by
   show pl.length - 0 < 1000000
   have : n * pl.length <= boundN n := by rw [hlen]; exact hB
   have h1 : 1 * pl.length <= n * pl.length := Nat.mul_le_mul_right _ hn1
   have hb : boundN n <= 100000 := (bound_c n (by omega)).2
   omega)
  (by rw [x0]; exact h19)
 have hw' : w' = pl.length := by
  rcases Nat.lt_or_ge w' pl.length with h | h
  ·have := hpt w' h
   unfold okP at this
   rw [Bool.and_eq_true, Bool.and_eq_true] at this
   replace h4 : (pl.getD w' ([], 0)).1 = [] := h4
   rw [h4] at this
   cases this.1.2
  ·omega
 rw [x0, hw', xe] at h1
 exact ⟨p', h1⟩
end Go.Proofs.YtgaghaggiblabaaGreatDoor.Ev.T
