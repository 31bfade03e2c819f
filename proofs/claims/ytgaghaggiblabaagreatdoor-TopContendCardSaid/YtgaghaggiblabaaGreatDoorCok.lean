/- What the calls give; TopContend returns true. No condition. -/
import Derived.Test.YtgaghaggiblabaaGreatDoorCoi
import Derived.Test.YtgaghaggiblabaaGreatDoorRun
set_option linter.all false
namespace Go.Proofs.YtgaghaggiblabaaGreatDoor.Ev.T
open Go Go.RowKit
open Mach (S up nxt)
def lvD : List Nat -> Nat
 | [] => 1
 | d :: h => if 11 <= d then d - 10 else lvD h
def nD : List Nat -> Nat
 | [] => 0
 | d :: h => if d = 9 then nD h + 1 else nD h
def hsD : List Nat -> List Nat
 | [] => []
 | d :: h => if d < 3 then d :: hsD h else hsD h
def ksD : List Nat -> List Nat
 | [] => []
 | d :: h => if 3 <= d /\ d < 9 then (d - 3) :: ksD h else ksD h
def fiD : List Nat -> Bool
 | [] => false
 | d :: h => if d = 10 then true else fiD h
def lstA (live : Nat) : Nat -> List Nat
 | 0 => [10 + live]
 | j + 1 => 9 :: lstA live j
def lst1 (live n : Nat) (hs : List Nat) : List Nat := hs ++ (10 :: lstA live n)
def lst (live n : Nat) (hs ks : List Nat) : List Nat := ks.map (· + 3) ++ lst1 live n hs
section
variable {live : Nat} (h1 : 1 <= live)
include h1
theorem dA : ∀ j, lvD (lstA live j) = live /\ nD (lstA live j) = j /\ hsD (lstA live j) = [] /\ ksD (lstA live j) = [] /\ fiD (lstA live j) = false
 | 0 => by
  unfold lstA
  refine ⟨?_, ?_, ?_, ?_, ?_⟩
  ·rw [lvD, if_pos (by omega)]; omega
  ·rw [nD, if_neg (by omega)]; rfl
  ·rw [hsD, if_neg (by omega)]; rfl
  ·rw [ksD, if_neg (by omega)]; rfl
  ·rw [fiD, if_neg (by omega)]; rfl
 | j + 1 => by
  obtain ⟨g1, g2, g3, g4, g5⟩ := dA j
  unfold lstA
  refine ⟨?_, ?_, ?_, ?_, ?_⟩
  ·rw [lvD, if_neg (by omega)]; exact g1
  ·rw [nD, if_pos rfl, g2]
  ·rw [hsD, if_neg (by omega)]; exact g3
  ·rw [ksD, if_neg (by omega)]; exact g4
  ·rw [fiD, if_neg (by omega)]; exact g5
theorem d1 (n : Nat) : ∀ hs : List Nat, (∀ d, d ∈ hs -> d < 3) -> lvD (lst1 live n hs) = live /\ nD (lst1 live n hs) = n /\ hsD (lst1 live n hs) = hs /\ ksD (lst1 live n hs) = [] /\ fiD (lst1 live n hs) = true
 | [], _ => by
  obtain ⟨g1, g2, g3, g4, g5⟩ := dA h1 n
  show lvD (10 :: lstA live n) = live /\ nD (10 :: lstA live n) = n /\ hsD (10 :: lstA live n) = [] /\ ksD (10 :: lstA live n) = [] /\ fiD (10 :: lstA live n) = true
  refine ⟨?_, ?_, ?_, ?_, ?_⟩
  ·rw [lvD, if_neg (by omega)]; exact g1
  ·rw [nD, if_neg (by omega)]; exact g2
  ·rw [hsD, if_neg (by omega)]; exact g3
  ·rw [ksD, if_neg (by omega)]; exact g4
  ·rw [fiD, if_pos rfl]
 | d :: hs, h => by
  have hd := h d List.mem_cons_self
  obtain ⟨g1, g2, g3, g4, g5⟩ := d1 n hs (fun x hx => h x (List.mem_cons_of_mem _ hx))
  show lvD (d :: lst1 live n hs) = live /\ nD (d :: lst1 live n hs) = n /\ hsD (d :: lst1 live n hs) = d :: hs /\ ksD (d :: lst1 live n hs) = [] /\ fiD (d :: lst1 live n hs) = true
  refine ⟨?_, ?_, ?_, ?_, ?_⟩
  ·rw [lvD, if_neg (by omega)]; exact g1
  ·rw [nD, if_neg (by omega)]; exact g2
  ·rw [hsD, if_pos hd, g3]
  ·rw [ksD, if_neg (by omega)]; exact g4
  ·rw [fiD, if_neg (by omega)]; exact g5
theorem d2 (n : Nat) {hs : List Nat} (h3 : ∀ d, d ∈ hs -> d < 3) : ∀ ks : List Nat, (∀ d, d ∈ ks -> d < 6) -> lvD (lst live n hs ks) = live /\ nD (lst live n hs ks) = n /\ hsD (lst live n hs ks) = hs /\ ksD (lst live n hs ks) = ks /\ fiD (lst live n hs ks) = true
 | [], _ => d1 h1 n hs h3
 | d :: ks, h => by
  have hd := h d List.mem_cons_self
  obtain ⟨g1, g2, g3, g4, g5⟩ := d2 n h3 ks (fun x hx => h x (List.mem_cons_of_mem _ hx))
  show lvD ((d + 3) :: lst live n hs ks) = live /\ nD ((d + 3) :: lst live n hs ks) = n /\ hsD ((d + 3) :: lst live n hs ks) = hs /\ ksD ((d + 3) :: lst live n hs ks) = d :: ks /\ fiD ((d + 3) :: lst live n hs ks) = true
  refine ⟨?_, ?_, ?_, ?_, ?_⟩
  ·rw [lvD, if_neg (by omega)]; exact g1
  ·rw [nD, if_neg (by omega)]; exact g2
  ·rw [hsD, if_neg (by omega)]; exact g3
  ·rw [ksD, if_pos (by omega), g4, show d + 3 - 3 = d by omega]
  ·rw [fiD, if_neg (by omega)]; exact g5
end
theorem ltA {live : Nat} (h3 : live <= 3) : ∀ (j d : Nat), d ∈ lstA live j -> d < 16
 | 0, d, h => by rw [lstA, List.mem_singleton] at h; omega
 | j + 1, d, h => by
  rw [lstA] at h
  rcases List.mem_cons.1 h with h | h
  ·omega
  ·exact ltA h3 j d h
theorem lt2 {live n : Nat} (h3 : live <= 3) {hs ks : List Nat} (hh : ∀ d, d ∈ hs -> d < 3) (hk : ∀ d, d ∈ ks -> d < 6) : ∀ d, d ∈ lst live n hs ks -> d < 16 := fun d hd => by
 unfold lst lst1 at hd
 rcases List.mem_append.1 hd with h | h
 ·obtain ⟨x, hx, rfl⟩ := List.mem_map.1 h
  have := hk x hx
  omega
 rcases List.mem_append.1 h with h | h
 ·have := hh d h; omega
 rcases List.mem_cons.1 h with h | h
 ·omega
 ·exact ltA h3 n d h
noncomputable def wT (h : List Nat) : AV := match fiD h with
 | true => WK (lvD h) (nD h) (sR (hsD h)) (wRr (lvD h) (nD h) (hsD h)) (stepsN (lvD h) (nD h)) (ksD h)
 | false => wsA (lvD h) (nD h)
noncomputable def X3 (w : Nat) : AV := wT (decL w)
theorem ok_X3 (w : Nat) : Ok1 (X3 w) 45 := by
 unfold X3 wT
 split
 ·exact wk_ok (ok_wR _ _ _) _
 ·exact ok_ws _ _
theorem X3_A {live j : Nat} (h1 : 1 <= live) (h3 : live <= 3) : X3 (encL (lstA live j)) = wsA live j := by
 obtain ⟨g1, g2, _, _, g5⟩ := dA h1 j
 unfold X3 wT
 rw [dec_enc (ltA h3 j), g5, g1, g2]
theorem X3_L {live n : Nat} (h1 : 1 <= live) (h3 : live <= 3) {hs ks : List Nat} (hh : ∀ d, d ∈ hs -> d < 3) (hk : ∀ d, d ∈ ks -> d < 6) : X3 (encL (lst live n hs ks)) = WK live n (sR hs) (wRr live n hs) (stepsN live n) ks := by
 obtain ⟨g1, g2, g3, g4, g5⟩ := d2 h1 n hh ks hk
 unfold X3 wT
 rw [dec_enc (lt2 h3 hh hk), g5, g1, g2, g3, g4]
theorem GX3 : GXn X3 := ⟨fun k => (ok_X3 k).nrf, fun k => (ok_X3 k).ntg, fun k => (ok_X3 k).top, fun k => (ok_X3 k).tup⟩
noncomputable def op3 (w : Nat) : List Nat := opL (nD (decL w)) (stK (lvD (decL w)) (nD (decL w)) (sR (hsD (decL w))) (ksD (decL w)))
theorem op3_L {live n : Nat} (h1 : 1 <= live) (h3 : live <= 3) {hs ks : List Nat} (hh : ∀ d, d ∈ hs -> d < 3) (hk : ∀ d, d ∈ ks -> d < 6) : op3 (encL (lst live n hs ks)) = opL n (stK live n (sR hs) ks) := by
 obtain ⟨g1, g2, g3, g4, g5⟩ := d2 h1 n hh ks hk
 unfold op3
 rw [dec_enc (lt2 h3 hh hk), g1, g2, g3, g4]
def Fct (f : Nat) (aa : List AV) (r : AV) : Prop := PurC f (instL X3 C0 aa) (inst X3 C0 r) /\ okt X3 r /\ nrfL aa = true
open Classical in
noncomputable def fct (f : Nat) (aa : List AV) (r : AV) : Option AV := if Fct f aa r then some r else none
theorem fct_eq {f : Nat} {aa : List AV} {r : AV} (h : Fct f aa r) : fct f aa r = some r := by unfold fct; rw [if_pos h]
theorem fct_ok {f : Nat} {aa : List AV} {r r' : AV} (h : fct f aa r = some r') : Fct f aa r' := by
 unfold fct at h
 split at h
 ·cases h; assumption
 ·cases h
open Classical in
noncomputable def lv6 (aa : List AV) : Nat := if aa = [setupA 1] then 1 else if aa = [setupA 2] then 2 else 3
open Classical in
noncomputable def dg8 (v : AV) : Nat := if v = invSB then 9 else if v = invRA 0 then 0 else if v = invRA 1 then 1 else 2
def End3 (live n : Nat) (w : Nat) (q : AV × Nat) : Prop := PurC 9 [X3 w] (.tup [q.1, i (q.2 : Nat), i 0]) /\ Ok1 q.1 45 /\ PurC 7 [q.1, setupA live] (.bool true) /\ ∃ s ar ts lg t hs ids cs, q.1 = .agg 44 [s, ar, .sv ts false, lg, t, hs] /\ Fin3 n ts ids cs
def Par3 (a : AV) (q : Nat × Nat × AV) : Prop := a = tokA q.1 q.2.1 /\ q.1 <= 6 /\ q.2.1 < 3 /\ Cl q.2.2 /\ PurC 14 [a] (.tup [.agg 74 [i (q.1 : Nat), i 1, q.2.2, i (q.2.1 : Nat)], i 0])
open Classical in
noncomputable def mem3 (f : Nat) (aa : List AV) : Option AV :=
 if f = 6 then fct 6 aa (.tup [.ob (encL (lstA (lv6 aa) 0)) 45, i 0])
 else if f = 7 then fct 7 aa (.bool true)
 else if f = 8 then (match aa with
  | [.ob w _, v] => fct 8 aa (.tup [.ob (encL (dg8 v :: decL w)) 45, i (nD (decL w) + (hsD (decL w)).length + 1 : Nat), i 0])
  | _ => none)
 else if f = 9 then (match aa with
  | [.ob w _] => (match fiD (decL w) with
   | true => if h : ∃ q, End3 (lvD (decL w)) (nD (decL w)) w q then fct 9 aa (.tup [(Classical.choose h).1, i ((Classical.choose h).2 : Nat), i 0]) else none
   | false => if h : ∃ p : Nat, Fct 9 aa (.tup [.ob (encL (10 :: decL w)) 45, i p, i 0]) then some (.tup [.ob (encL (10 :: decL w)) 45, i (Classical.choose h : Nat), i 0]) else none)
  | _ => none)
 else if f = 12 then (match aa with
  | [.ob w _] => fct 12 aa (opA (op3 w))
  | _ => none)
 else if f = 13 then (match aa with
  | [.ob w _, .int _ k] => fct 13 aa (.tup [.ob (encL ((k.toNat + 3) :: decL w)) 45, i 0])
  | _ => none)
 else if f = 14 then (match aa with
  | [a] => if h : ∃ q, Par3 a q then some (.tup [.agg 74 [i ((Classical.choose h).1 : Nat), i 1, (Classical.choose h).2.2, i ((Classical.choose h).2.1 : Nat)], i 0]) else none
  | _ => none)
 else if f = 15 then fct 15 aa (.bool true)
 else none
theorem mem3_ok : ∀ f aa r, mem3 f aa = some r -> PurC f (instL X3 C0 aa) (inst X3 C0 r) /\ okt X3 r /\ nrfL aa = true := by
 intro f aa r h
 show Fct f aa r
 unfold mem3 at h
 split at h
 ·rename_i e; rw [e]; exact fct_ok h
 split at h
 ·rename_i e; rw [e]; exact fct_ok h
 split at h
 ·rename_i e
  split at h
  ·rw [e]; exact fct_ok h
  ·cases h
 split at h
 ·rename_i e
  split at h
  ·split at h
   ·split at h
    ·rw [e]; exact fct_ok h
    ·cases h
   ·split at h
    ·rename_i hh
     cases h
     rw [e]; exact Classical.choose_spec hh
    ·cases h
  ·cases h
 split at h
 ·rename_i e
  split at h
  ·rw [e]; exact fct_ok h
  ·cases h
 split at h
 ·rename_i e
  split at h
  ·rw [e]; exact fct_ok h
  ·cases h
 split at h
 ·rename_i e
  split at h
  ·rename_i a
   split at h
   ·rename_i hh
    cases h
    obtain ⟨h1, _, _, h2, h3⟩ := Classical.choose_spec hh
    have hc : Cl a := by rw [h1]; exact .sv (cl_map (fun _ => ⟨rfl, rfl⟩) _)
    have hr : Cl (.agg 74 [i ((Classical.choose hh).1 : Nat), i 1, (Classical.choose hh).2.2, i ((Classical.choose hh).2.1 : Nat)]) := .agg (cl_cons .i (cl_cons .i (cl_cons h2 (cl_cons .i cl_nil))))
    have hn : ntg (.tup [.agg 74 [i ((Classical.choose hh).1 : Nat), i 1, (Classical.choose hh).2.2, i ((Classical.choose hh).2.1 : Nat)], i 0]) = true := by rw [ntg, ntgL, hr.ntg]; rfl
    refine ⟨?_, okt_cl _ _ hn, ?_⟩
    ·rw [e, instL_1, inst_c hc, inst_cl X3 C0 _ hn]; exact h3
    ·rw [nrfL, hc.nrf]; rfl
   ·cases h
  ·cases h
 split at h
 ·rename_i e; rw [e]; exact fct_ok h
 ·cases h
end Go.Proofs.YtgaghaggiblabaaGreatDoor.Ev.T
namespace Go.Proofs.YtgaghaggiblabaaGreatDoor.Ev.T
open Go Go.RowKit
open Mach (S up nxt)
section
variable {live n : Nat}
def idOk (live n : Nat) : Bool := (List.range live).all fun c => (List.range (mN live n c)).all fun j => (Nat.ble 1 (idN live n c j) && Nat.ble (idN live n c j) n) && (List.range live).all fun c' => (List.range (mN live n c')).all fun j' => (Nat.beq c c' && Nat.beq j j') || !(Nat.beq (idN live n c j) (idN live n c' j'))
theorem idOk_ok (hb : Bd live n) : idOk live n = true := pick3 (p := fun a b => idOk a b = true) rfl rfl rfl rfl rfl rfl rfl rfl rfl rfl rfl rfl rfl rfl rfl rfl rfl rfl hb.l1 hb.l3 hb.n1 hb.n6
theorem id_b (hb : Bd live n) {c j : Nat} (hc : c < live) (hj : j < mN live n c) : 1 <= idN live n c j /\ idN live n c j <= n := by
 have := all_r (all_r (idOk_ok hb) hc) hj
 rw [Bool.and_eq_true, Bool.and_eq_true] at this
 exact ⟨Nat.le_of_ble_eq_true this.1.1, Nat.le_of_ble_eq_true this.1.2⟩
theorem id_ne (hb : Bd live n) {c j c' j' : Nat} (hc : c < live) (hj : j < mN live n c) (hc' : c' < live) (hj' : j' < mN live n c') (h : (c, j) ≠ (c', j')) : idN live n c j ≠ idN live n c' j' := by
 have := all_r (all_r (idOk_ok hb) hc) hj
 rw [Bool.and_eq_true] at this
 have := all_r (all_r this.2 hc') hj'
 intro e
 rw [e, Nat.beq_refl] at this
 rw [Bool.or_eq_true, Bool.and_eq_true] at this
 rcases this with ⟨h1, h2⟩ | h1
 ·exact h (by rw [Nat.eq_of_beq_eq_true h1, Nat.eq_of_beq_eq_true h2])
 ·cases h1
def idq (live n : Nat) (l : Mach.Loc) : Nat := match l with | .done c _ j => idN live n c j | _ => 0
def csq (l : Mach.Loc) : Nat := match l with | .done c _ _ => c | _ => 0
theorem fin3_of (hb : Bd live n) {s' : S} {t' : Nat} {W' : AV} (hi : Mach.Inv live n (mN live n) s') (hW : WRep live n s' t' W') (ho : opL n s' = []) : ∃ s ar ts lg t hs ids cs, W' = .agg 44 [s, ar, .sv ts false, lg, t, hs] /\ Fin3 n ts ids cs := by
 obtain ⟨ts, lg, hs, hD, rfl⟩ := hW
 have hdone : ∀ q, q < n -> Mach.isDone (s'.loc q) = true := fun q hq => by
  cases e : Mach.isDone (s'.loc q) with
  | true => rfl
  | false =>
   have : n + q ∈ opL n s' := opL_mem.2 ⟨q, hq, e, rfl⟩
   rw [ho] at this; cases this
 obtain ⟨f1, f2⟩ := hi.fin hdone
 refine ⟨setupA live, arenaA live n s', (List.range (n + n)).map ts, .sv lg false, i t', sln hs, fun q => idq live n (s'.loc q), fun q => csq (s'.loc q), rfl, ?_, ?_, ?_, ?_, ?_, ?_⟩
 ·rw [List.length_map, List.length_range]; omega
 ·intro q h hq
  obtain ⟨c, k, j, hl, hc, hj⟩ := f1 q hq
  have hT := hD.hts.tk q hq
  rw [hl] at hT
  obtain ⟨f, _, _, e⟩ := shape_done hT
  refine ⟨f, true, ?_⟩
  rw [List.getElem_map, List.getElem_range, e, hl]
  rfl
 ·intro q hq
  obtain ⟨c, k, j, hl, hc, hj⟩ := f1 q hq
  show 1 <= idq live n (s'.loc q)
  rw [hl]; exact (id_b hb hc hj).1
 ·intro q hq
  obtain ⟨c, k, j, hl, hc, hj⟩ := f1 q hq
  show idq live n (s'.loc q) <= n
  rw [hl]; exact (id_b hb hc hj).2
 ·intro q hq
  obtain ⟨c, k, j, hl, hc, hj⟩ := f1 q hq
  show csq (s'.loc q) < 3
  rw [hl]; have := hb.l3; show c < 3; omega
 ·intro q q' hq hq' hne
  obtain ⟨c, k, j, hl, hc, hj⟩ := f1 q hq
  obtain ⟨c', k', j', hl', hc', hj'⟩ := f1 q' hq'
  show idq live n (s'.loc q) ≠ idq live n (s'.loc q')
  rw [hl, hl']
  exact id_ne hb hc hj hc' hj' (f2 q q' hq hq' hne c k j c' k' j' hl hl')
theorem setup_inj {a b : Nat} (h : setupA a = setupA b) : a = b := by
 unfold setupA at h
 simp only [AV.agg.injEq, List.cons.injEq, AV.int.injEq, true_and, and_true] at h
 omega
theorem invRA_inj {a b : Nat} (h : invRA a = invRA b) : a = b := by
 unfold invRA at h
 simp only [AV.agg.injEq, List.cons.injEq, AV.int.injEq, true_and, and_true] at h
 omega
theorem invSB_ne (a : Nat) : invRA a ≠ invSB := by
 intro h
 unfold invRA invSB at h
 simp only [AV.agg.injEq, List.cons.injEq, AV.int.injEq, true_and, and_true] at h
 omega
theorem tokA_inj {a b c d : Nat} (h : tokA a b = tokA c d) : a = c /\ b = d := by
 unfold tokA at h
 simp only [AV.sv.injEq, List.cons_append, List.map_cons, List.cons.injEq, AV.int.injEq, true_and, and_true] at h
 obtain ⟨h1, _, _, h2, _⟩ := h
 omega
theorem lv6_eq (h1 : 1 <= live) (h3 : live <= 3) : lv6 [setupA live] = live := by
 unfold lv6
 match live, h1, h3 with
 | 1, _, _ => rw [if_pos rfl]
 | 2, _, _ =>
  rw [if_neg (fun e => by have := setup_inj (List.cons.inj e).1; omega), if_pos rfl]
 | 3, _, _ => rw [if_neg (fun e => by have := setup_inj (List.cons.inj e).1; omega), if_neg (fun e => by have := setup_inj (List.cons.inj e).1; omega)]
theorem dg8_s : dg8 invSB = 9 := by unfold dg8; rw [if_pos rfl]
theorem dg8_r {d : Nat} (h : d < 3) : dg8 (invRA d) = d := by
 unfold dg8
 rw [if_neg (invSB_ne d)]
 match d, h with
 | 0, _ => rw [if_pos rfl]
 | 1, _ => rw [if_neg (fun e => by have := invRA_inj e; omega), if_pos rfl]
 | 2, _ => rw [if_neg (fun e => by have := invRA_inj e; omega), if_neg (fun e => by have := invRA_inj e; omega)]
theorem cl_invSB : Cl invSB := .agg (cl_cons .i (cl_cons .i (cl_cons .i (cl_cons .i (cl_cons .i (cl_cons .i (cl_cons (.sv (cl_cons .str cl_nil)) (cl_cons .sn cl_nil))))))))
theorem okt_ob {w : Nat} : okt X3 (.ob w 45) := by rw [okt, (ok_X3 w).lc]
theorem okt_i {m : Int} : okt X3 (i m) := okt_cl _ _ rfl
theorem pur_cl {f : Nat} {l : List AV} {r : AV} (h : rn [] f l r = true) (hl : ∀ a, a ∈ l -> Cl a) (hr : ntg r = true) : PurC f l r := rn_cl h .nil (ntgL_all fun a ha => (hl a ha).ntg) hr
theorem all7_at (h1 : 1 <= live) (h3 : live <= 3) : cNew live = true /\ ∀ j, j < 6 -> cInvS live j = true := by
 have h := all_r (n := 3) all7_ok (show live - 1 < 3 by omega)
 rw [show live - 1 + 1 = live by omega] at h
 obtain ⟨h1, h2⟩ := and'_ok h
 exact ⟨h1, fun j hj => all_r h2 hj⟩
theorem all70_at (h1 : 1 <= live) (h3 : live <= 3) : rn [] 7 [wsA live 0, setupA live] (.bool true) = true := by
 have h := all_r (n := 3) all70_ok (show live - 1 < 3 by omega)
 rwa [show live - 1 + 1 = live by omega] at h
theorem all71_at (hb : Bd live n) : rn [] 7 [w1A live n, setupA live] (.bool true) = true /\ rn [] 19 [wsA live n] (i (boundN n : Nat)) = true /\ rn [] 12 [w1A live n] (opA []) = true := by
 have h1 := hb.l1
 have h3 := hb.l3
 have h4 := hb.n1
 have h6 := hb.n6
 have h := all_r (n := 6) (all_r (n := 3) all71_ok (show live - 1 < 3 by omega)) (show n - 1 < 6 by omega)
 rw [show live - 1 + 1 = live by omega, show n - 1 + 1 = n by omega] at h
 obtain ⟨g1, g2⟩ := and'_ok h
 exact ⟨g1, and'_ok g2⟩
theorem okS_at (hb : Bd live n) : okS live n = true := by
 have h1 := hb.l1
 have h3 := hb.l3
 have h4 := hb.n1
 have h6 := hb.n6
 have h := all_r (n := 6) (all_r (n := 3) all72_ok (show live - 1 < 3 by omega)) (show n - 1 < 6 by omega)
 rwa [show live - 1 + 1 = live by omega, show n - 1 + 1 = n by omega] at h
theorem ch_all (hb : Bd live n) : Ch (wsA live n) (planS live n) (w1A live n) := pick3 (p := fun a b => Ch (wsA a b) (planS a b) (w1A a b)) ch1_1 ch1_2 ch1_3 ch1_4 ch1_5 ch1_6 ch2_1 ch2_2 ch2_3 ch2_4 ch2_5 ch2_6 ch3_1 ch3_2 ch3_3 ch3_4 ch3_5 ch3_6 hb.l1 hb.l3 hb.n1 hb.n6
theorem fin_1 (hb : Bd live n) : ∃ p' : Nat, PurC 9 [wsA live n] (.tup [w1A live n, i p', i 0]) := by
 have h6 := hb.n6
 obtain ⟨_, g2, g3⟩ := all71_at hb
 exact fin_sends hb.n1 hb.n6 (ch_all hb) (okS_at hb) (ok_w1 live n) (pur_cl g2 (fun a ha => by rw [List.mem_singleton.1 ha]; exact .of (ok_ws live n)) rfl) (pur_cl g3 (fun a ha => by rw [List.mem_singleton.1 ha]; exact .of (ok_w1 live n)) rfl) allIdx_ok nodup_ok (by have := (bound_c n (by omega)).2; omega)
theorem steps_ok (hb : Bd live n) : 1 <= stepsN live n /\ stepsN live n <= 1000 := pick3 (p := fun a b => 1 <= stepsN a b /\ stepsN a b <= 1000) (by decide) (by decide) (by decide) (by decide) (by decide) (by decide) (by decide) (by decide) (by decide) (by decide) (by decide) (by decide) (by decide) (by decide) (by decide) (by decide) (by decide) (by decide) hb.l1 hb.l3 hb.n1 hb.n6
theorem m6 (h1 : 1 <= live) (h3 : live <= 3) : mem3 6 [setupA live] = some (.tup [.ob (encL (lstA live 0)) 45, i 0]) := by
 unfold mem3
 rw [if_pos rfl, lv6_eq h1 h3]
 refine fct_eq ⟨?_, ?_, ?_⟩
 ·rw [instL_1, inst_c (cl_setup live), inst_tup, instL_cons, instL_1, inst_ob, inst_i, X3_A h1 h3]
  exact pur_cl (all7_at h1 h3).1 (fun a ha => by rw [List.mem_singleton.1 ha]; exact cl_setup live) (by rw [ntg, ntgL, ntgL, ntgL, (ok_ws live 0).ntg]; rfl)
 ·rw [okt, oktL, oktL, oktL]; exact ⟨okt_ob, okt_i, trivial⟩
 ·rw [nrfL, nrfL, (cl_setup live).nrf]; rfl
theorem m7 {w : Nat} (h : PurC 7 [X3 w, setupA live] (.bool true)) : mem3 7 [.ob w 45, setupA live] = some (.bool true) := by
 unfold mem3
 rw [if_neg (by decide), if_pos rfl]
 refine fct_eq ⟨?_, okt_cl _ _ rfl, ?_⟩
 ·rw [instL_cons, instL_1, inst_ob, inst_c (cl_setup live), inst_b]; exact h
 ·rw [nrfL, nrfL, nrfL, (cl_setup live).nrf]; rfl
theorem m7c {a : AV} (ha : Cl a) (h : PurC 7 [a, setupA live] (.bool true)) : mem3 7 [a, setupA live] = some (.bool true) := by
 unfold mem3
 rw [if_neg (by decide), if_pos rfl]
 refine fct_eq ⟨?_, okt_cl _ _ rfl, ?_⟩
 ·rw [instL_cons, instL_1, inst_c ha, inst_c (cl_setup live), inst_b]; exact h
 ·rw [nrfL, nrfL, nrfL, ha.nrf, (cl_setup live).nrf]; rfl
theorem m8 {w : Nat} {v : AV} (hv : Cl v) (h : PurC 8 [X3 w, v] (.tup [X3 (encL (dg8 v :: decL w)), i (nD (decL w) + (hsD (decL w)).length + 1 : Nat), i 0])) : mem3 8 [.ob w 45, v] = some (.tup [.ob (encL (dg8 v :: decL w)) 45, i (nD (decL w) + (hsD (decL w)).length + 1 : Nat), i 0]) := by
 unfold mem3
 rw [if_neg (by decide), if_neg (by decide), if_pos rfl]
 refine fct_eq ⟨?_, ?_, ?_⟩
 ·rw [instL_cons, instL_1, inst_ob, inst_c hv, inst_tup, instL_cons, instL_cons, instL_1, inst_ob, inst_i, inst_i]; exact h
 ·rw [okt, oktL, oktL, oktL, oktL]; exact ⟨okt_ob, okt_i, okt_i, trivial⟩
 ·rw [nrfL, nrfL, nrfL, hv.nrf]; rfl
theorem m9a {w : Nat} (hf : fiD (decL w) = false) (h : ∃ p : Nat, PurC 9 [X3 w] (.tup [X3 (encL (10 :: decL w)), i p, i 0])) : ∃ p : Nat, mem3 9 [.ob w 45] = some (.tup [.ob (encL (10 :: decL w)) 45, i p, i 0]) := by
 have hex : ∃ p : Nat, Fct 9 [.ob w 45] (.tup [.ob (encL (10 :: decL w)) 45, i p, i 0]) := by
  obtain ⟨p, h⟩ := h
  refine ⟨p, ?_, ?_, rfl⟩
  ·rw [instL_1, inst_ob, inst_tup, instL_cons, instL_cons, instL_1, inst_ob, inst_i, inst_i]; exact h
  ·rw [okt, oktL, oktL, oktL, oktL]; exact ⟨okt_ob, okt_i, okt_i, trivial⟩
 refine ⟨Classical.choose hex, ?_⟩
 unfold mem3
 rw [if_neg (by decide), if_neg (by decide), if_neg (by decide), if_pos rfl]
 show (match fiD (decL w) with | true => _ | false => _ : Option AV) = _
 rw [hf]
 exact dif_pos hex
theorem m9d {w : Nat} (hf : fiD (decL w) = true) (h : ∃ q, End3 (lvD (decL w)) (nD (decL w)) w q) : ∃ q, End3 (lvD (decL w)) (nD (decL w)) w q /\ mem3 9 [.ob w 45] = some (.tup [q.1, i (q.2 : Nat), i 0]) := by
 refine ⟨Classical.choose h, Classical.choose_spec h, ?_⟩
 obtain ⟨h1, h2, _, _⟩ := Classical.choose_spec h
 have hc : Cl (Classical.choose h).1 := .of h2
 unfold mem3
 rw [if_neg (by decide), if_neg (by decide), if_neg (by decide), if_pos rfl]
 show (match fiD (decL w) with | true => _ | false => _ : Option AV) = _
 rw [hf]
 refine (dif_pos h).trans (fct_eq ⟨?_, ?_, rfl⟩)
 ·rw [instL_1, inst_ob, inst_tup, instL_cons, instL_cons, instL_1, inst_c hc, inst_i, inst_i]; exact h1
 ·rw [okt, oktL, oktL, oktL, oktL]; exact ⟨okt_cl _ _ hc.ntg, okt_i, okt_i, trivial⟩
theorem m12 {w : Nat} (h : PurC 12 [X3 w] (opA (op3 w))) : mem3 12 [.ob w 45] = some (opA (op3 w)) := by
 unfold mem3
 rw [if_neg (by decide), if_neg (by decide), if_neg (by decide), if_neg (by decide), if_pos rfl]
 refine fct_eq ⟨?_, okt_cl _ _ (cl_opA _).ntg, rfl⟩
 rw [instL_1, inst_ob, inst_c (cl_opA _)]; exact h
theorem m13 {w k : Nat} (h : PurC 13 [X3 w, i k] (.tup [X3 (encL ((k + 3) :: decL w)), i 0])) : mem3 13 [.ob w 45, i k] = some (.tup [.ob (encL ((k + 3) :: decL w)) 45, i 0]) := by
 unfold mem3
 rw [if_neg (by decide), if_neg (by decide), if_neg (by decide), if_neg (by decide), if_neg (by decide), if_pos rfl]
 refine fct_eq (r := .tup [.ob (encL ((k + 3) :: decL w)) 45, i 0]) ⟨?_, ?_, rfl⟩
 ·rw [instL_cons, instL_1, inst_ob, inst_i, inst_tup, instL_cons, instL_1, inst_ob, inst_i]; exact h
 ·rw [okt, oktL, oktL, oktL]; exact ⟨okt_ob, okt_i, trivial⟩
theorem m14 {id c : Nat} (h1 : 1 <= id) (h6 : id <= 6) (hc : c < 3) : ∃ ro, mem3 14 [tokA id c] = some (.tup [.agg 74 [i id, i 1, ro, i c], i 0]) := by
 have hp : PurC 14 [tokA id c] (.tup [.agg 74 [i id, i 1, i (routeN id), i c], i 0]) := by
  have h := all_r (all_r (n := 6) all8_ok (show id - 1 < 6 by omega)) hc
  rw [show id - 1 + 1 = id by omega] at h
  exact pur_cl h (fun a ha => by rw [List.mem_singleton.1 ha]; exact .sv (cl_map (fun _ => ⟨rfl, rfl⟩) _)) rfl
 have hex : ∃ q, Par3 (tokA id c) q := ⟨(id, c, i (routeN id)), rfl, h6, hc, .i, hp⟩
 obtain ⟨g1, _, _, _, _⟩ := Classical.choose_spec hex
 obtain ⟨e1, e2⟩ := tokA_inj g1
 refine ⟨(Classical.choose hex).2.2, ?_⟩
 unfold mem3
 rw [if_neg (by decide), if_neg (by decide), if_neg (by decide), if_neg (by decide), if_neg (by decide), if_neg (by decide), if_pos rfl]
 refine (dif_pos hex).trans ?_
 rw [<- e1, <- e2]
theorem m15 : mem3 15 [] = some (.bool true) := by
 unfold mem3
 rw [if_neg (by decide), if_neg (by decide), if_neg (by decide), if_neg (by decide), if_neg (by decide), if_neg (by decide), if_neg (by decide), if_pos rfl]
 refine fct_eq ⟨?_, okt_cl _ _ rfl, rfl⟩
 rw [instL_nil, inst_b]
 exact pur_of aw
end
end Go.Proofs.YtgaghaggiblabaaGreatDoor.Ev.T
namespace Go.Proofs.YtgaghaggiblabaaGreatDoor.Ev.T
open Go Go.RowKit
open Mach (S up nxt)
section
variable {live n fuel : Nat}
theorem ks0 : ∀ d, d ∈ ([] : List Nat) -> d < 6 := fun _ h => by cases h
def IsA (live n : Nat) (w j : Nat) : Prop := w = encL (lstA live j) /\ j <= n
def IsB (live n : Nat) (w r : Nat) : Prop := ∃ hs : List Nat, hs.length = r /\ (∀ d, d ∈ hs -> d < 3) /\ w = encL (lst live n hs [])
def IsD (live n : Nat) (w p : Nat) : Prop := ∃ hs ks : List Nat, hs.length = n /\ (∀ d, d ∈ hs -> d < 3) /\ VK live n (sR hs) ks /\ ks.length = p /\ p <= 150 /\ w = encL (lst live n hs ks)
theorem rep_d (hb : Bd live n) {hs ks : List Nat} (hl : hs.length = n) (h3 : ∀ d, d ∈ hs -> d < 3) (hv : VK live n (sR hs) ks) (hk : ks.length <= 1000) : Mach.Inv live n (mN live n) (stK live n (sR hs) ks) /\ WRep live n (stK live n (sR hs) ks) (stepsN live n + ks.length) (WK live n (sR hs) (wRr live n hs) (stepsN live n) ks) := by
 obtain ⟨g1, g2⟩ := rep_r hb hl h3
 obtain ⟨s1, s2⟩ := steps_ok hb
 exact vk_rep hb g1 g2 s1 hv (by omega)
theorem call3 (hb : Bd live n) : Call3 (run tab3 mem3 (fuel + 1)) live n (IsA live n) (IsB live n) (IsD live n) op3 := by
 have l1 := hb.l1
 have l3 := hb.l3
 have n1 := hb.n1
 have n6 := hb.n6
 refine ⟨?_, ?_, ?_, ?_, ?_, ?_, ?_, ?_, ?_, ?_, ?_, ?_, ?_, ?_⟩
 ·exact ⟨_, ⟨rfl, Nat.zero_le _⟩, fun m H => run_mem (m6 l1 l3)⟩
 ·rintro w ⟨rfl, _⟩ m H
  refine run_mem (m7 ?_)
  rw [X3_A l1 l3]
  exact pur_cl (all70_at l1 l3) (fun a ha => by
   rcases List.mem_cons.1 ha with rfl | ha
   ·exact .of (ok_ws _ _)
   ·rw [List.mem_singleton.1 ha]; exact cl_setup live) rfl
 ·rintro w j ⟨rfl, hj⟩ hjn
  obtain ⟨g1, g2, g3, g4, g5⟩ := dA l1 j
  have hd := dec_enc (ltA l3 j)
  refine ⟨encL (lstA live (j + 1)), i (j + 1 : Nat), ⟨rfl, by omega⟩, fun m H => run_mem ?_⟩
  have key := m8 (w := encL (lstA live j)) cl_invSB (by
   rw [hd, dg8_s, g2, g3]
   show PurC 8 [X3 (encL (lstA live j)), invSB] (.tup [X3 (encL (lstA live (j + 1))), i (j + 1 : Nat), i 0])
   rw [X3_A l1 l3, X3_A l1 l3]
   exact pur_cl ((all7_at l1 l3).2 j (by omega)) (fun a ha => by
    rcases List.mem_cons.1 ha with rfl | ha
    ·exact .of (ok_ws _ _)
    ·rw [List.mem_singleton.1 ha]; exact cl_invSB) (by rw [ntg, ntgL, ntgL, ntgL, (ok_ws live (j + 1)).ntg]; rfl))
  rw [hd, dg8_s, g2, g3] at key
  exact key
 ·rintro w ⟨rfl, _⟩
  obtain ⟨g1, g2, g3, g4, g5⟩ := dA l1 n
  have hd := dec_enc (ltA l3 n)
  have hx : X3 (encL (10 :: lstA live n)) = w1A live n := by
   have := X3_L (live := live) (n := n) (hs := []) (ks := []) l1 l3 (fun _ h => by cases h) ks0
   rw [show lst live n [] [] = 10 :: lstA live n from rfl] at this
   rw [this, <- wRr_nil]; rfl
  obtain ⟨p, hp⟩ := m9a (w := encL (lstA live n)) (by rw [hd]; exact g5) (by
   obtain ⟨p, hp⟩ := fin_1 hb
   exact ⟨p, by rw [hd, hx, X3_A l1 l3]; exact hp⟩)
  rw [hd] at hp
  exact ⟨encL (10 :: lstA live n), i p, ⟨[], rfl, (fun _ h => by cases h), rfl⟩, fun m H => run_mem hp⟩
 ·rintro w ⟨hs, hl, h3, rfl⟩ m H
  have : hs = [] := List.length_eq_zero_iff.1 hl
  subst this
  refine run_mem (m7 ?_)
  rw [X3_L l1 l3 h3 ks0]
  show PurC 7 [wRr live n [], setupA live] _
  rw [wRr_nil]
  exact pur_cl (all71_at hb).1 (fun a ha => by
   rcases List.mem_cons.1 ha with rfl | ha
   ·exact .of (ok_w1 _ _)
   ·rw [List.mem_singleton.1 ha]; exact cl_setup live) rfl
 ·rintro w r ⟨hs, hl, h3, rfl⟩ hr h hh
  have h3' : ∀ d, d ∈ h :: hs -> d < 3 := fun d hd => by
   rcases List.mem_cons.1 hd with rfl | hd
   ·exact hh
   ·exact h3 d hd
  obtain ⟨g1, g2, g3, g4, g5⟩ := d1 l1 n hs h3
  have hd : decL (encL (lst live n hs [])) = lst1 live n hs := dec_enc (lt2 l3 h3 ks0)
  refine ⟨encL (lst live n (h :: hs) []), i (n + hs.length + 1 : Nat), ⟨h :: hs, by rw [List.length_cons, hl], h3', rfl⟩, fun wm m H => run_mem ?_⟩
  have key := m8 (w := encL (lst live n hs [])) (cl_invR h) (by
   rw [hd, dg8_r hh, g2, g3]
   show PurC 8 [X3 (encL (lst live n hs [])), invRA h] (.tup [X3 (encL (lst live n (h :: hs) [])), i (n + hs.length + 1 : Nat), i 0])
   rw [X3_L l1 l3 h3 ks0, X3_L l1 l3 h3' ks0]
   exact inv_r hb (by omega) hh)
  rw [hd, dg8_r hh, g2, g3] at key
  exact key
 ·rintro w ⟨hs, hl, h3, rfl⟩
  exact ⟨hs, [], hl, h3, trivial, rfl, Nat.zero_le _, rfl⟩
 ·rintro w p ⟨hs, ks, hl, h3, hv, hk, hp, rfl⟩ m H
  have hk6 := vk_lt hb hv
  refine run_mem (m12 ?_)
  rw [X3_L l1 l3 h3 hk6, op3_L l1 l3 h3 hk6]
  exact (rep_d hb hl h3 hv (by omega)).2.open hb
 ·rintro w p ⟨hs, ks, hl, h3, hv, hk, hp, rfl⟩
  rw [op3_L l1 l3 h3 (vk_lt hb hv)]
  have := opL_len n (stK live n (sR hs) ks)
  omega
 ·rintro w p ⟨hs, ks, hl, h3, hv, hk, hp, rfl⟩ hp' k hkk
  have hk6 := vk_lt hb hv
  rw [op3_L l1 l3 h3 hk6] at hkk
  have hv' : VK live n (sR hs) (k :: ks) := ⟨hkk, hv⟩
  have hk6' := vk_lt hb hv'
  have hd : decL (encL (lst live n hs ks)) = lst live n hs ks := dec_enc (lt2 l3 h3 hk6)
  refine ⟨encL (lst live n hs (k :: ks)), ⟨hs, k :: ks, hl, h3, hv', by rw [List.length_cons, hk], by omega, rfl⟩, fun wm m H => run_mem ?_⟩
  have key := m13 (w := encL (lst live n hs ks)) (k := k) (by
   rw [hd]
   show PurC 13 [X3 (encL (lst live n hs ks)), i k] (.tup [X3 (encL (lst live n hs (k :: ks))), i 0])
   rw [X3_L l1 l3 h3 hk6, X3_L l1 l3 h3 hk6']
   obtain ⟨g1, g2⟩ := rep_r hb hl h3
   obtain ⟨s1, s2⟩ := steps_ok hb
   exact vk_pick hb g1 g2 s1 hv' (by omega))
  rw [hd] at key
  exact key
 ·rintro w p ⟨hs, ks, hl, h3, hv, hk, hp, rfl⟩ _ m H
  refine run_mem (m7 ?_)
  rw [X3_L l1 l3 h3 (vk_lt hb hv)]
  exact (rep_d hb hl h3 hv (by omega)).2.sane hb
 ·rintro w p ⟨hs, ks, hl, h3, hv, hk, hp, rfl⟩ _
  have hk6 := vk_lt hb hv
  obtain ⟨g1, g2, g3, g4, g5⟩ := d2 l1 n h3 ks hk6
  have hd : decL (encL (lst live n hs ks)) = lst live n hs ks := dec_enc (lt2 l3 h3 hk6)
  obtain ⟨q, ⟨q1, q2, q3, s, ar, ts, lg, t, hh, ids, cs, q4, q5⟩, hm⟩ := m9d (w := encL (lst live n hs ks)) (by rw [hd]; exact g5) (by
   rw [hd, g1, g2]
   obtain ⟨r1, r2⟩ := rep_d hb hl h3 hv (by omega)
   obtain ⟨s1, s2⟩ := steps_ok hb
   obtain ⟨W', s', t', p', f1, f2, f3, f4⟩ := fin_rep hb r1 r2 (by omega) (by omega)
   refine ⟨(W', p'), ?_, f3.ok, f3.sane hb, ?_⟩
   ·rw [X3_L l1 l3 h3 hk6]; exact f1
   ·exact fin3_of hb f2 f3 f4)
  rw [hd, g1] at q3
  rw [hd, g2] at q5
  rw [q4] at hm q3 q2
  exact ⟨s, ar, ts, lg, t, hh, i (q.2 : Nat), ids, cs, q5, fun m H => run_mem hm, fun m H => run_mem (m7c (.of q2) q3)⟩
 ·rintro id c h1 h6 hc
  obtain ⟨ro, h⟩ := m14 h1 h6 hc
  exact ⟨ro, fun m H => run_mem h⟩
 ·exact fun m H => run_mem m15
end
theorem m_none {f : Nat} (h6 : f ≠ 6) (h7 : f ≠ 7) (h8 : f ≠ 8) (h9 : f ≠ 9) (h12 : f ≠ 12) (h13 : f ≠ 13) (h14 : f ≠ 14) (h15 : f ≠ 15) (aa : List AV) : mem3 f aa = none := by
 unfold mem3
 rw [if_neg h6, if_neg h7, if_neg h8, if_neg h9, if_neg h12, if_neg h13, if_neg h14, if_neg h15]
theorem t3_3 : tab3 3 = some f3 := by kernel_rfl
theorem t3_4 : tab3 4 = some f4 := by kernel_rfl
theorem t3_5 : tab3 5 = some f5 := by kernel_rfl
theorem t3_10 : tab3 10 = some f10 := by kernel_rfl
theorem t3_11 : tab3 11 = some f11 := by kernel_rfl
theorem t3_21 : tab3 21 = some f21 := by kernel_rfl
section
variable {fuel : Nat} {Lv : AV} {L : List Int}
theorem r10 (hl : LvOk Lv L) (h4 : L.length <= 4000) {m : Nat} (hm : 1 <= m) (hm2 : m <= 1000) {n : Nat} {H : Hp} (hH : RdOk Lv L H) : ∃ (r : Nat) (H' : Hp), r < m /\ run tab3 mem3 (fuel + 2) 10 [.ptr 0 0 [] 85, i m] 0 n H = some (i r, n, H') /\ RdOk Lv L H' /\ ∀ b, b ≠ 0 -> hget b H' = hget b H := by
 obtain ⟨v, H', h1, h2, h3⟩ := next_ok (rec := run tab3 mem3 fuel) (n := n) hl h4 hH
 have h21 : run tab3 mem3 (fuel + 1) 21 [.ptr 0 0 [] 85] 0 n H = some (i v, n, H') := (run_body (m_none (by decide) (by decide) (by decide) (by decide) (by decide) (by decide) (by decide) (by decide) _) t3_21).trans h1
 obtain ⟨r, hr, hb⟩ := n_ok hm (by omega) h21
 exact ⟨r, H', hr, (run_body (m_none (by decide) (by decide) (by decide) (by decide) (by decide) (by decide) (by decide) (by decide) _) t3_10).trans hb, h2, h3⟩
theorem callR (hl : LvOk Lv L) (h4 : L.length <= 4000) : CallR (run tab3 mem3 (fuel + 3)) Lv L := by
 refine ⟨?_, ?_, ?_⟩
 ·intro m hm hm2 n H hH
  exact r10 (fuel := fuel + 1) hl h4 hm hm2 hH
 ·intro m hm hm2 n H hH
  obtain ⟨r, H', hr, h10, h2, h3⟩ := r10 (fuel := fuel) hl h4 hm hm2 hH
  exact ⟨r + 1, H', by omega, hr, (run_body (m_none (by decide) (by decide) (by decide) (by decide) (by decide) (by decide) (by decide) (by decide) _) t3_5).trans (range_ok hm hm2 hr h10), h2, h3⟩
 ·intro n H hH
  obtain ⟨b, h⟩ := more_ok (rec := run tab3 mem3 (fuel + 2)) (n := n) hl hH
  exact ⟨b, (run_body (m_none (by decide) (by decide) (by decide) (by decide) (by decide) (by decide) (by decide) (by decide) _) t3_11).trans h⟩
end
theorem con_run {Lv : AV} {L : List Int} (hl : LvOk Lv L) : run tab3 mem3 4 3 [Lv] 0 0 [] = some (.bool true, 0, []) := by
 obtain ⟨Lv', L', h1, h2, h3⟩ := new_ok (rec := run tab3 mem3 2) hl
 have h4 : run tab3 mem3 3 4 [Lv] 0 0 [] = some (.ptr 0 0 [] 85, 1, [(0, rdB Lv' 0)]) := (run_body (m_none (by decide) (by decide) (by decide) (by decide) (by decide) (by decide) (by decide) (by decide) _) t3_4).trans h3
 exact (run_body (m_none (by decide) (by decide) (by decide) (by decide) (by decide) (by decide) (by decide) (by decide) _) t3_3).trans (con_true h4 (callR (fuel := 0) h1 h2) fun live n l1 l3 n1 n6 => ⟨_, _, _, _, call3 (fuel := 2) ⟨l1, l3, n1, n6⟩⟩)
theorem con_known {Lv : AV} {L : List Int} (hl : LvOk Lv L) : Knows (QX X3 C0 hC0) 3 [Lv] (.bool true) :=
 known_of hty tab3_snd (known_fn GX3 mem3_ok) (con_run hl) (by rcases hl with ⟨rfl, _⟩ | ⟨b, rfl⟩ <;> rfl)
end Go.Proofs.YtgaghaggiblabaaGreatDoor.Ev.T
namespace Go.Proofs.YtgaghaggiblabaaGreatDoor.Ev.T
open Go Go.Proofs Go.RowKit
def IntsIn (W : World) (v : Value) : Prop := v = .slice none 0 0 \/ ∃ (b off len cap : Nat) (zs : List Int) (arr : Array Value) (e : TypeId) (fz : Nat × Nat), v = .slice (some ⟨b, off, none⟩) len cap /\ W.heap[b]? = some (.cells arr e fz) /\ zs.length = len /\ len <= cap /\ ∀ j (h : j < zs.length), arr[off + j]? = some (.int .i64 zs[j])
theorem R_ints {P : PX} {K : Kap} {ρ : Rho} : ∀ zs : List Int, R P K ρ (zs.map fun m => i m) (List.replicate zs.length none) (zs.map (Value.int .i64))
 | [] => .nil
 | z :: zs => .int (R_ints zs)
theorem run_out {P : PX} (hP : P.toProgram = Tryz.prog) {Lv : AV} (hk : Knows P 3 [Lv] (.bool true)) {K : Kap} {W : World} (hK : Go.Proofs.YtgaghaggiblabaaGreatDoor.Ev.KOk K W) {v : Value} (hv : VR P K (fun _ => none) Lv v) : Calls Tryz.prog 3 #[v] W fun e w' => e = .returned (.bool true) /\ Below W.heap.size W w' := by
 have hi : Inv P ⟨K, fun _ => none, 0, [], W⟩ := ⟨hK, ⟨fun b ab e => (by cases e), fun b b' x y c k k' e => (by cases e)⟩, fun b x e => (by cases e)⟩
 have hc := hk.2 0 ⟨K, fun _ => none, 0, [], W⟩ [v] hi (Nat.le_refl _) (.cons hv .nil)
 rw [<- hP]
 refine hc.mono ?_
 rintro e w' ⟨v, t, rfl, rfl, hv, hE, _, _⟩
 have hv' : v = .bool true := hv.bool
 subst hv'
 refine ⟨rfl, hE.os, hE.tape, hE.out, hE.size, ?_⟩
 intro k hlt
 exact hE.frame k hlt (fun hx => by obtain ⟨b, ab, _, e, _⟩ := hx; cases e)
theorem con_walk {W : World} {v : Value} (h : IntsIn W v) : Calls Tryz.prog 3 #[v] W fun e w' => e = .returned (.bool true) /\ Below W.heap.size W w' := by
 rcases h with rfl | ⟨b, off, len, cap, zs, arr, e, fz, rfl, hb, hl, hc, hz⟩
 ·exact run_out rfl (con_known (Lv := .sn) (L := []) (.inl ⟨rfl, rfl⟩)) (K := fun _ => none) (fun c a e => by cases e) (.inl (.inr ⟨none, _, .sn .nil, rfl⟩))
 ·refine run_out rfl (con_known (Lv := .sv (zs.map fun m => i m) false) (L := zs) (.inr ⟨false, rfl⟩)) (K := fun c => if c = b then some arr else none) (fun c a h => ?_) (.inl (.inr ⟨none, [.slice (some ⟨b, off, none⟩) len cap], ?_, rfl⟩))
  ·show ∃ e fz, W.heap[c]? = some (.cells a e fz)
   replace h : (if c = b then some arr else none) = some a := h
   split at h
   ·rename_i hcb
    cases h
    exact ⟨e, fz, by rw [hcb]; exact hb⟩
   ·cases h
  ·have hlen : (zs.map fun m => i m).length = len := by rw [List.length_map]; exact hl
   rw [<- hlen]
   refine .sv (l := none) (cs := zs.map (Value.int .i64)) ⟨arr, if_pos rfl, ?_⟩ ?_ (by omega) (fun h => by cases h) .nil
   ·refine List.ext_getElem? fun j => ?_
    rw [List.getElem?_take, List.length_map]
    by_cases hj : j < zs.length
    ·rw [if_pos hj, List.getElem?_drop, Array.getElem?_toList, hz j hj, List.getElem?_map, List.getElem?_eq_getElem hj]; rfl
    ·rw [if_neg hj, List.getElem?_eq_none (by rw [List.length_map]; omega)]
   ·rw [List.length_map]; exact R_ints zs
end Go.Proofs.YtgaghaggiblabaaGreatDoor.Ev.T
