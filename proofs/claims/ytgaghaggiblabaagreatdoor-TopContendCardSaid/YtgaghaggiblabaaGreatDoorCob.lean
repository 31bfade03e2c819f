/- Runs with tags, put to use; the steps of a receive. No condition. -/
import Derived.Test.YtgaghaggiblabaaGreatDoorCoa
import Derived.Test.YtgaghaggiblabaaGreatDoorFin
set_option linter.all false
namespace Go.Proofs.YtgaghaggiblabaaGreatDoor.Ev
open Go.RowKit
section
variable (X : Nat -> AV) (N : Nat -> Int)
mutual
theorem inst_cl : ∀ a : AV, ntg a = true -> inst X N a = a
 | .pv a, h => by rw [inst, inst_cl a (by rwa [ntg] at h)]
 | .sv l f, h => by rw [inst, instL_cl l (by rwa [ntg] at h)]
 | .agg t l, h => by rw [inst, instL_cl l (by rwa [ntg] at h)]
 | .tup l, h => by rw [inst, instL_cl l (by rwa [ntg] at h)]
 | .fn f fi ca, h => by
  have h := and'_ok (by rwa [ntg] at h)
  rw [inst, instL_cl fi h.1, instL_cl ca h.2]
 | .ob _ _, h => by rw [ntg] at h; cases h
 | .cn _, h => by rw [ntg] at h; cases h
 | .int .., _ => by rw [inst] <;> (intros; contradiction)
 | .bool _, _ => by rw [inst] <;> (intros; contradiction)
 | .str _, _ => by rw [inst] <;> (intros; contradiction)
 | .nilp, _ => by rw [inst] <;> (intros; contradiction)
 | .ptr .., _ => by rw [inst] <;> (intros; contradiction)
 | .sn, _ => by rw [inst] <;> (intros; contradiction)
 | .se, _ => by rw [inst] <;> (intros; contradiction)
 | .sr .., _ => by rw [inst] <;> (intros; contradiction)
 | .nilf, _ => by rw [inst] <;> (intros; contradiction)
 | .mp _, _ => by rw [inst] <;> (intros; contradiction)
 | .nilm, _ => by rw [inst] <;> (intros; contradiction)
 | .top, _ => by rw [inst] <;> (intros; contradiction)
theorem instL_cl : ∀ l : List AV, ntgL l = true -> instL X N l = l
 | [], _ => by rw [instL]
 | a :: l, h => by
  have h := and'_ok (by rwa [ntgL] at h)
  rw [instL, inst_cl a h.1, instL_cl l h.2]
end
end
mutual
theorem inst_nt {X : Nat -> AV} {N : Nat -> Int} (hX : ∀ i, ntg (X i) = true) : ∀ a : AV, ntg (inst X N a) = true
 | .pv a => by rw [inst, ntg]; exact inst_nt hX a
 | .sv l f => by rw [inst, ntg]; exact instL_nt hX l
 | .agg t l => by rw [inst, ntg]; exact instL_nt hX l
 | .tup l => by rw [inst, ntg]; exact instL_nt hX l
 | .fn f fi ca => by rw [inst, ntg, instL_nt hX fi, instL_nt hX ca]; rfl
 | .ob i _ => by rw [inst]; exact hX i
 | .cn _ => by rw [inst, ntg] <;> (intros; contradiction)
 | .int .. => by rw [inst, ntg] <;> (intros; contradiction)
 | .bool _ => by rw [inst, ntg] <;> (intros; contradiction)
 | .str _ => by rw [inst, ntg] <;> (intros; contradiction)
 | .nilp => by rw [inst, ntg] <;> (intros; contradiction)
 | .ptr .. => by rw [inst, ntg] <;> (intros; contradiction)
 | .sn => by rw [inst, ntg] <;> (intros; contradiction)
 | .se => by rw [inst, ntg] <;> (intros; contradiction)
 | .sr .. => by rw [inst, ntg] <;> (intros; contradiction)
 | .nilf => by rw [inst, ntg] <;> (intros; contradiction)
 | .mp _ => by rw [inst, ntg] <;> (intros; contradiction)
 | .nilm => by rw [inst, ntg] <;> (intros; contradiction)
 | .top => by rw [inst, ntg] <;> (intros; contradiction)
theorem instL_nt {X : Nat -> AV} {N : Nat -> Int} (hX : ∀ i, ntg (X i) = true) : ∀ l : List AV, ntgL (instL X N l) = true
 | [] => by rw [instL, ntgL]
 | a :: l => by rw [instL, ntgL, inst_nt hX a, instL_nt hX l]; rfl
end
mutual
theorem okt_cl (X : Nat -> AV) : ∀ a : AV, ntg a = true -> okt X a
 | .pv a, h => by rw [okt]; exact okt_cl X a (by rwa [ntg] at h)
 | .sv l f, h => by rw [okt]; exact oktL_cl X l (by rwa [ntg] at h)
 | .agg t l, h => by rw [okt]; exact oktL_cl X l (by rwa [ntg] at h)
 | .tup l, h => by rw [okt]; exact oktL_cl X l (by rwa [ntg] at h)
 | .fn f fi ca, h => by
  have h := and'_ok (by rwa [ntg] at h)
  rw [okt]; exact ⟨oktL_cl X fi h.1, oktL_cl X ca h.2⟩
 | .ob _ _, h => by rw [ntg] at h; cases h
 | .cn _, h => by rw [ntg] at h; cases h
 | .int .., _ => by rw [okt] <;> first | trivial | (intros; contradiction)
 | .bool _, _ => by rw [okt] <;> first | trivial | (intros; contradiction)
 | .str _, _ => by rw [okt] <;> first | trivial | (intros; contradiction)
 | .nilp, _ => by rw [okt] <;> first | trivial | (intros; contradiction)
 | .ptr .., _ => by rw [okt] <;> first | trivial | (intros; contradiction)
 | .sn, _ => by rw [okt] <;> first | trivial | (intros; contradiction)
 | .se, _ => by rw [okt] <;> first | trivial | (intros; contradiction)
 | .sr .., _ => by rw [okt] <;> first | trivial | (intros; contradiction)
 | .nilf, _ => by rw [okt] <;> first | trivial | (intros; contradiction)
 | .mp _, _ => by rw [okt] <;> first | trivial | (intros; contradiction)
 | .nilm, _ => by rw [okt] <;> first | trivial | (intros; contradiction)
 | .top, _ => by rw [okt] <;> first | trivial | (intros; contradiction)
theorem oktL_cl (X : Nat -> AV) : ∀ l : List AV, ntgL l = true -> oktL X l
 | [], _ => by rw [oktL]; trivial
 | a :: l, h => by
  have h := and'_ok (by rwa [ntgL] at h)
  rw [oktL]; exact ⟨okt_cl X a h.1, oktL_cl X l h.2⟩
end
end Go.Proofs.YtgaghaggiblabaaGreatDoor.Ev
namespace Go.Proofs.YtgaghaggiblabaaGreatDoor.Ev.T
open Go Go.RowKit
structure GXn (X : Nat -> AV) : Prop where
 nrf : ∀ i, nrf (X i) = true
 ntg : ∀ i, ntg (X i) = true
 top : ∀ i, X i ≠ .top
 tup : ∀ i l, X i ≠ .tup l
theorem GXn.gx {X : Nat -> AV} (h : GXn X) : GX X := ⟨h.nrf, h.top, h.tup⟩
def C0 (k : Nat) : Int := if k <= 99 then 1 else if k <= 1001 then k else 1
theorem hC0 : HC C0 := by
 intro k
 unfold C0
 refine ⟨?_, ?_, ?_, ?_⟩
 ·split
  ·omega
  ·split <;> omega
 ·split
  ·omega
  ·split <;> omega
 ·intro h; rw [if_pos h]; omega
 ·intro h1 h2
  rw [if_neg (by omega), if_pos (by omega), if_neg (by omega), if_pos (by omega)]
  omega
noncomputable def X0 : Nat -> AV := fun _ => i 0
noncomputable abbrev Q0 : PX := QX X0 C0 hC0
abbrev PurC (f : Nat) (l : List AV) (r : AV) : Prop := Pur Q0 f l r
theorem asok_ok {l : List AV} (h : asok l = true) : fzl (fz 0 [] 60 true) l some = some l := by
 unfold asok at h
 split at h
 ·rename_i m e
  rw [e, avl_ok (aveq_ok 60) h]
 ·cases h
section
variable {X : Nat -> AV} {C : Nat -> Int} {hC : HC C}
def MemC (X : Nat -> AV) (C : Nat -> Int) (mem : List Fact) : Prop := ∀ q, q ∈ mem -> match q with | ⟨f, l, r⟩ => PurC f (instL X C l) (inst X C r) /\ okt X r /\ nrfL l = true
theorem MemC.nil : MemC X C [] := fun _ h => by cases h
theorem MemC.cons {f : Nat} {l : List AV} {r : AV} {mem : List Fact} (h : PurC f (instL X C l) (inst X C r)) (ho : okt X r) (hn : nrfL l = true) (hm : MemC X C mem) : MemC X C (⟨f, l, r⟩ :: mem) := by
 intro q hq
 rcases List.mem_cons.1 hq with rfl | hq
 ·exact ⟨h, ho, hn⟩
 ·exact hm q hq
theorem MemC.consC {f : Nat} {l : List AV} {r : AV} {mem : List Fact} (h : PurC f l r) (h1 : ntgL l = true) (h2 : ntg r = true) (hn : nrfL l = true) (hm : MemC X C mem) : MemC X C (⟨f, l, r⟩ :: mem) :=
 .cons (by rw [instL_cl X C l h1, inst_cl X C r h2]; exact h) (okt_cl X r h2) hn hm
theorem MemC.known (hX : GXn X) {mem : List Fact} (h : MemC X C mem) : Known (QX X C hC) (memOf mem) := known_list fun q hq => by
 obtain ⟨f, l, r⟩ := q
 obtain ⟨h1, h2, h3⟩ := h _ hq
 exact knows_pur (Pur.take h1 hX.gx h2 (instL_nt hX.ntg _) (inst_nt hX.ntg _)) h3
theorem rn_put {mem : List Fact} {f : Nat} {l : List AV} {r : AV} (h : rn mem f l r = true) (hX : GXn X) (hC : HC C) (hm : MemC X C mem) (ho : oktL X l) : PurC f (instL X C l) (inst X C r) := by
 obtain ⟨h1, h2⟩ := and'_ok h
 obtain ⟨a, h3, h4⟩ := okr_ok h2
 have hk : Knows (QX X C hC) f l a := known_of hty tab2_snd (hm.known hX) h3 (asok_ok h1)
 exact Pur.put ((pur_of hk).le h4) hX.gx ho (instL_nt hX.ntg _) (inst_nt hX.ntg _)
theorem rn_cl {mem : List Fact} {f : Nat} {l : List AV} {r : AV} (h : rn mem f l r = true) (hm : MemC X0 C0 mem) (h1 : ntgL l = true) (h2 : ntg r = true) : PurC f l r := by
 have hX : GXn X0 := ⟨fun _ => rfl, fun _ => rfl, fun _ h => (by cases h), fun _ _ h => (by cases h)⟩
 have := rn_put h hX hC0 hm (oktL_cl X0 l h1)
 rwa [instL_cl X0 C0 l h1, inst_cl X0 C0 r h2] at this
end
end Go.Proofs.YtgaghaggiblabaaGreatDoor.Ev.T
namespace Go.Proofs.YtgaghaggiblabaaGreatDoor.Ev.T
open Go
def ckN (id c : Nat) : List Nat := match id, c with
 | 1, 0 => [224, 26, 251, 122]
 | 1, 1 => [6, 29, 117, 227]
 | 1, 2 => [148, 22, 6, 168]
 | 2, 0 => [20, 49, 71, 251]
 | 2, 1 => [238, 46, 205, 146]
 | 2, 2 => [200, 44, 83, 41]
 | 3, 0 => [36, 85, 147, 215]
 | 3, 1 => [254, 83, 25, 110]
 | 3, 2 => [216, 80, 159, 5]
 | 4, 0 => [95, 154, 111, 94]
 | 4, 1 => [133, 156, 233, 199]
 | 4, 2 => [19, 149, 122, 140]
 | 5, 0 => [49, 62, 168, 108]
 | 5, 1 => [87, 65, 34, 213]
 | 5, 2 => [125, 67, 157, 62]
 | 6, 0 => [201, 148, 235, 101]
 | 6, 1 => [163, 146, 112, 252]
 | 6, 2 => [21, 153, 224, 55]
 | _, _ => []
noncomputable def tokA (id c : Nat) : AV := .sv (([113, 0, 0, 0, id, 0, 0, 1, routeN id / 256, routeN id % 256, c, 0] ++ ckN id c).map fun b => .int .u8 (b : Nat)) false
noncomputable def y32 : AV := .agg 32 [i 0, .sn]
noncomputable def y37 : AV := .agg 37 [i 0, .sn, .sn]
noncomputable def y68 : AV := .agg 68 [.sn, y32, .sn, .sn, .sn]
noncomputable def secN (c : Nat) : AV := .agg 70 [i 0, i 0, lkP c 0 0, .agg 64 [i 0, i 0, i 0, i 0], .sn, y32, .sn, y37, y68, i 1, .sn]
noncomputable def st0 : List AV := [.ob 3 136, .ob 4 136, .ob 5 136]
noncomputable def ow : AV := .ob 21 73
noncomputable def arD (live : Nat) : AV := arP [.ob 0 134, .ob 1 134, .ob 2 134] st0 (dirA live)
noncomputable def arO (c : Nat) (o s : AV) : AV := arP (slP c (.agg 133 [o, s])) st0 (.ob 7 38)
noncomputable def arS (c : Nat) (o s st : AV) : AV := arP (slP c (.agg 133 [o, s])) (stP c st) (.ob 7 38)
noncomputable def shT (c : Nat) : AV := .ob (50 + c) 125
noncomputable def outT (s d : AV) : AV := .agg 68 [.sv [s] false, d, .sv [i 0] false, .sn, .sn]
noncomputable def secQ (ph at_ : Int) (l snap shards stripes out carry : AV) : AV := .agg 70 [i ph, i at_, l, snap, shards, .ob 32 33, stripes, .ob 33 38, out, i 1, carry]
noncomputable def cy : AV := .ob 35 0
noncomputable def lkT : AV := .ob 36 63
noncomputable def tkStart (h : AV) : AV := tkP h 0 (.ob 30 71) od ow (.ob 22 0)
noncomputable def tkNew (h dir : AV) (c : Nat) (w : AV) : AV := tkP h 1 (secN c) dir w (i c)
noncomputable def tkL (c : Nat) : AV := tkP oh 1 (secQ 0 0 (lkP c 0 0) (snP 0 (.ob 39 0)) .sn .sn oo cy) od ow (i c)
noncomputable def tkM0 (c : Nat) : AV := tkP oh 1 (secQ 1 0 (lkP c 3 1) (snP 0 (.ob 39 0)) .sn .sn oo cy) od ow (i c)
noncomputable def tkM1 (c : Nat) (st : AV) : AV := tkP oh 1 (secQ 1 1 (lkP c 3 1) (snP 0 (.ob 39 0)) .sn (.sv [st] false) oo cy) od ow (i c)
noncomputable def tkLd (c : Nat) (st : AV) : AV := tkP oh 1 (secQ 2 0 (lkP c 3 1) (snP 0 (.ob 39 0)) .sn (.sv [st] false) oo cy) od ow (i c)
noncomputable def tkS (k : Int) (c : Nat) (stamp st sh w : AV) : AV := tkP oh 1 (secQ 3 0 (lkP c 3 1) (snP k stamp) (.sv [sh] false) (.sv [st] false) oo cy) od w (i c)
noncomputable def tkSt (c : Nat) (st sh sh' d w : AV) : AV := tkP oh 1 (secQ 5 0 (lkP c 3 1) (snP 3 (.ob 39 0)) (.sv [sh] false) (.sv [st] false) (outT sh' d) cy) od w (i c)
noncomputable def tkU (c : Nat) (st sh out cr : AV) : AV := tkP oh 1 (secQ 7 0 (lkP c 3 1) (snP 3 (.ob 39 0)) (.sv [sh] false) (.sv [st] false) out cr) od ow (i c)
noncomputable def tkF (c : Nat) (st sh out w : AV) : AV := tkP oh 1 (secQ 8 0 (lkP c 4 1) (snP 3 (.ob 39 0)) (.sv [sh] false) (.sv [st] false) out cy) od w (i c)
noncomputable def tkNx (sec w sl : AV) : AV := tkP oh 2 sec od w sl
noncomputable def resA (id c : Nat) : AV := .agg 78 [i 0, i 0, .sv [tokA id c] false, .sv [.str [109]] false, i 0, i 0, i 0]
noncomputable def secZ : AV := .agg 70 [i 0, i 0, .agg 62 [.sn, i 0, i 0, i 0, i 0], .agg 64 [i 0, i 0, i 0, i 0], .sn, y32, .sn, y37, y68, i 0, .sn]
noncomputable def tkD (num ended : AV) (id c : Nat) : AV := .agg 76 [num, invP oh, .ob 10 0, .bool true, ended, i 0, i 1, .sv [resA id c] false, stpP, secZ, y37, .agg 72 [i 0, i 0], i 0, i 0, .agg 74 [i 0, i 0, i 0, i 0], i 0, .sn, .sn]
noncomputable def evA (id : Nat) : AV := .sv [.agg 98 [.ob 39 0, .cn 1, i 0, i 3, i 0, i 0, i 0, .sv [.agg 260 [i id, i 1, i (routeN id), i 50]] false, i 0, i 0]] false
def nxt (live c : Nat) : Nat := (c + 1) % live
def idN (live n c j : Nat) : Nat := (idsN live n c).getD j 0
noncomputable def stT : AV := .ob 40 136
noncomputable def cn1 : AV := .cn 1
noncomputable def rs (mem : List Fact) (a t a' t' e : AV) : Bool := rn mem 22 [a, t, .cn 100] (.tup [a', t', e, i 0])
noncomputable def cStart (live h : Nat) : Bool := let c := if h < live then h else 0; rs [] (arD live) (tkStart (i h)) (arD live) (tkNew (i h) (dirA live) c (walkA live c 0)) .sn
noncomputable def cBusy (c : Nat) : Bool := rs [] (arO c (.cn 2) (shT c)) (tkL c) (arO c (.cn 2) (shT c)) (tkL c) .sn
noncomputable def cFree (c : Nat) : Bool := rs [] (arO c (i 0) (shT c)) (tkL c) (arO c cn1 (shT c)) (tkM0 c) .sn
noncomputable def cM0 (c : Nat) : Bool := rs [] ar0 (tkM0 c) ar0 (tkM1 c (.ob (3 + c) 136)) .sn
noncomputable def cM1 (live n c v : Nat) : Bool := rs [] (arO c cn1 (shT c)) (tkM1 c (stripeA live n c v 0)) (arS c cn1 (shT c) (stripeA live n c v 1)) (tkLd c (stripeA live n c v 1)) .sn
noncomputable def cLd (c : Nat) : Bool := rs [] (arO c cn1 (shT c)) (tkLd c stT) (arO c cn1 (shT c)) (tkS 0 c (.ob 39 0) stT (shT c) ow) .sn
noncomputable def cS0 (c : Nat) : Bool := rs [] ar0 (tkS 0 c (.ob 39 0) stT (.ob 38 125) ow) ar0 (tkS 1 c (.ob 39 0) stT (.ob 38 125) ow) .sn
noncomputable def cS1 (c : Nat) : Bool := rs [] ar0 (tkS 1 c (.ob 39 0) stT (.ob 38 125) ow) ar0 (tkS 2 c (.cn 100) stT (.ob 38 125) ow) .sn
noncomputable def cS2t (live n c j k : Nat) : Bool := rs [exP live n c j, tkPc live n c j] ar0 (tkS 2 c (.ob 39 0) stT (shardA live n c j) (walkA live c k)) ar0 (tkSt c stT (shardA live n c j) (shardA live n c (j + 1)) y32 (walkA live (nxt live c) (k + 1))) (evA (idN live n c j))
noncomputable def cS2n (live n c k : Nat) : Bool := let m := mN live n c; rs [exP live n c m, tkPc live n c m] ar0 (tkS 2 c (.ob 39 0) stT (shardA live n c m) (walkA live c k)) ar0 (tkP oh 1 (secQ 7 0 (lkP c 3 1) (snP 3 (.ob 39 0)) (.sv [shardA live n c m] false) (.sv [stT] false) (out0 (shardA live n c m)) cy) od (walkA live (nxt live c) (k + 1)) (i c)) .sn
noncomputable def cSt (live n c j : Nat) : Bool := let s := shardA live n c (j + 1); rs [] (arO c cn1 (shardA live n c j)) (tkSt c stT (.ob 38 125) s (.ob 43 33) ow) (arO c cn1 s) (tkU c stT (.ob 38 125) (outT s (.ob 43 33)) .sn) .sn
noncomputable def cUt (live n c v : Nat) : Bool := let s := shardA live n c (v + 1); rs [enP live n c v] (arO c cn1 (shT c)) (tkU c (stripeA live n c v 1) (.ob 38 125) (outT s (.ob 43 33)) cy) (arS c cn1 (shT c) (stripeA live n c (v + 1) 0)) (tkF c (stripeA live n c v 1) (.ob 38 125) (outT s (.ob 43 33)) ow) .sn
noncomputable def out0' (s : AV) : AV := .agg 68 [.sv [s] false, .ob 43 33, .sn, .sn, .sn]
noncomputable def cUn (live n c v : Nat) : Bool := let s := shardA live n c (mN live n c); rs [enP live n c v] (arO c cn1 (shT c)) (tkU c (stripeA live n c v 1) s (out0' (.ob 45 125)) cy) (arS c cn1 (shT c) (stripeA live n c (v + 1) 0)) (tkF c (stripeA live n c v 1) s (out0' (.ob 45 125)) ow) .sn
noncomputable def cFt (live n c j : Nat) : Bool := rs [exP live n c j, tkPc live n c j] (arO c cn1 (shT c)) (tkF c stT (shardA live n c j) (outT (.ob 45 125) (.ob 43 33)) ow) (arO c (i 0) (shT c)) (tkD cn1 (.cn 100) (idN live n c j) c) .sn
noncomputable def secE (c : Nat) (st sh out : AV) : AV := secQ 9 0 (lkP c 5 0) (snP 3 (.ob 39 0)) (.sv [sh] false) (.sv [st] false) out cy
noncomputable def cFn (live c k : Nat) : Bool := let w := walkA live (nxt live c) (k + 1); let o := out0' (.ob 45 125); rs [] (arO c cn1 (shT c)) (tkF c stT (.ob 38 125) o w) (arO c (i 0) (shT c)) (tkNx (secE c stT (.ob 38 125) o) w (i c)) .sn
noncomputable def cNx (live c k : Nat) : Bool := let w := walkA live c k; rs [] (arD live) (tkNx (.ob 30 71) w (.ob 22 0)) (arD live) (tkP oh 1 (secN c) (dirA live) w (i c)) .sn
def upTo (m : Nat) : List Nat := List.range m
noncomputable def all1 : Bool := (upTo 3).all fun l => (upTo 3).all fun h => cStart (l + 1) h
noncomputable def all2 : Bool := (upTo 3).all fun c => and' (cBusy c) (and' (cFree c) (and' (cM0 c) (and' (cLd c) (and' (cS0 c) (cS1 c)))))
noncomputable def all3 (live n : Nat) : Bool := (upTo live).all fun c => (upTo n).all fun v => and' (cM1 live n c v) (Bool.rec (cUn live n c v) (cUt live n c v) (Nat.blt v (mN live n c)))
noncomputable def all4 (live n : Nat) : Bool := (upTo live).all fun c => (upTo (mN live n c)).all fun j => and' (cSt live n c j) (cFt live n c j)
noncomputable def all5 (live n : Nat) : Bool := (upTo live).all fun c => (upTo live).all fun k => and' (Bool.rec true (cS2n live n c k) (Nat.blt (k + 1) live)) ((upTo (mN live n c)).all fun j => cS2t live n c j k)
noncomputable def all6 : Bool := (upTo 3).all fun l => (upTo (l + 1)).all fun c => (upTo (l + 1)).all fun k => and' (Bool.rec true (cFn (l + 1) c k) (Nat.blt (k + 1) (l + 1))) (cNx (l + 1) c k)
end Go.Proofs.YtgaghaggiblabaaGreatDoor.Ev.T
namespace Go.Proofs.YtgaghaggiblabaaGreatDoor.Ev.T
open Go Go.RowKit
noncomputable def invRA (h : Nat) : AV := .agg 53 [i 2, i h, i 1, i 50, i 0, i 0, .sn, .sn]
noncomputable def tkF' (f : Nat -> AV) (d : Bool) (res : AV) : AV := .agg 76 [f 0, f 1, f 2, .bool d, f 4, f 5, f 6, res, f 8, f 9, f 10, f 11, f 12, f 13, f 14, f 15, f 16, f 17]
section
variable {α : Type} {H : Hp}
theorem hget_top (n : Nat) (ab : AB) (H : Hp) : hget n ((n, ab) :: H) = some ab := by rw [hget_cons, if_pos rfl]
theorem hset_top {n : Nat} {x ab : AB} : hset n x ((n, ab) :: H) = (n, x) :: H := by
 show (Bool.rec _ _ (Nat.beq n n) : Hp) = _
 rw [nbeq, decide_eq_true rfl]
theorem fill1 {z : AV} : fill z 1 = [z] := rfl
theorem r64_150 {j : Nat} (h : j < 150) : ltI (j : Int) 150 = true := by rw [ltI_eq]; exact decide_eq_true (by omega)
theorem r64_150f {j : Nat} (h : ¬ j < 150) : ltI (j : Int) 150 = false := by rw [ltI_eq]; exact decide_eq_false (by omega)
theorem lnv_sv {l : List AV} {b : Bool} {f : Nat -> Option α} : lnv 0 (.sv l b) f = f l.length := by
 show (Bool.rec none (f (len l)) (Nat.beq 0 0) : Option α) = _
 rw [len_eq]; rfl
theorem idx_tk {ts : List AV} {j : Nat} (h : j < ts.length) {g : Nat -> AV} {d : Bool} {res : AV} (ht : ts[j] = tkF' g d res) {b : Bool} {f : AV -> Option α} : idx 0 77 0 (.sv ts b) j f = f (.pv (tkF' g d res)) := by
 show nth ts j _ = _
 rw [nth_at h, ht]
 rfl
theorem idx_1 {e : Nat} {a : AV} {b : Bool} {f : AV -> Option α} : idx 0 e 0 (.sv [a] b) 0 f = Bool.rec none (f (.pv a)) (Nat.beq e (lc a)) := rfl
theorem idx_met {d j : Nat} (h : j < 10) {f : AV -> Option α} : idx 60 0 10 (.ptr d 0 [] 60) j f = f (.ptr d 0 [j] 0) := by
 show (Bool.rec none (f (.ptr d 0 [j] 0)) (and' true (and' true (Nat.ble (j + 1) 10))) : Option α) = _
 rw [nble, decide_eq_true (by omega)]
 rfl
theorem ne1 : beqI ((0 + 1 : Nat) : Int) 1 = true := rfl
theorem lt11 : ltI 1 ((0 + 1 : Nat) : Int) = false := rfl
theorem hq1 {j : Nat} {q : Bool} (h : ltI (j : Int) 1 = q) : ltI (j : Int) ((0 + 1 : Nat) : Int) = q := h
end
end Go.Proofs.YtgaghaggiblabaaGreatDoor.Ev.T
