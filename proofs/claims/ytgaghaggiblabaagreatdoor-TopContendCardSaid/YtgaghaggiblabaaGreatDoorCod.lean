/- Every step of a receive is one of the abstract machine. No condition. -/
import Derived.Test.YtgaghaggiblabaaGreatDoorCoc
import Derived.Test.YtgaghaggiblabaaGreatDoorGra
import Derived.Test.YtgaghaggiblabaaGreatDoorGrb
import Derived.Test.YtgaghaggiblabaaGreatDoorGrc
import Derived.Test.YtgaghaggiblabaaGreatDoorGrd
import Derived.Test.YtgaghaggiblabaaGreatDoorFaa
import Derived.Test.YtgaghaggiblabaaGreatDoorFab
import Derived.Test.YtgaghaggiblabaaGreatDoorFac
set_option linter.all false
namespace Go.Proofs.YtgaghaggiblabaaGreatDoor.Ev.T
open Go Go.RowKit
open Mach (S up nxt Inv)
theorem blt_t {a b : Nat} (h : a < b) : Nat.blt a b = true := Nat.ble_eq_true_of_le h
theorem blt_f {a b : Nat} (h : b <= a) : Nat.blt a b = false := by
 cases e : Nat.blt a b with
 | false => rfl
 | true => have := Nat.le_of_ble_eq_true e; omega
theorem all_r {n : Nat} {p : Nat -> Bool} (h : (List.range n).all p = true) {k : Nat} (hk : k < n) : p k = true := List.all_eq_true.1 h k (List.mem_range.2 hk)
theorem pick3 {p : Nat -> Nat -> Prop} (h11 : p 1 1) (h12 : p 1 2) (h13 : p 1 3) (h14 : p 1 4) (h15 : p 1 5) (h16 : p 1 6) (h21 : p 2 1) (h22 : p 2 2) (h23 : p 2 3) (h24 : p 2 4) (h25 : p 2 5) (h26 : p 2 6) (h31 : p 3 1) (h32 : p 3 2) (h33 : p 3 3) (h34 : p 3 4) (h35 : p 3 5) (h36 : p 3 6)
  {live n : Nat} (a : 1 <= live) (b : live <= 3) (c : 1 <= n) (d : n <= 6) : p live n := by
 match live, n, a, b, c, d with
 | 1, 1, _, _, _, _ => exact h11
 | 1, 2, _, _, _, _ => exact h12
 | 1, 3, _, _, _, _ => exact h13
 | 1, 4, _, _, _, _ => exact h14
 | 1, 5, _, _, _, _ => exact h15
 | 1, 6, _, _, _, _ => exact h16
 | 2, 1, _, _, _, _ => exact h21
 | 2, 2, _, _, _, _ => exact h22
 | 2, 3, _, _, _, _ => exact h23
 | 2, 4, _, _, _, _ => exact h24
 | 2, 5, _, _, _, _ => exact h25
 | 2, 6, _, _, _, _ => exact h26
 | 3, 1, _, _, _, _ => exact h31
 | 3, 2, _, _, _, _ => exact h32
 | 3, 3, _, _, _, _ => exact h33
 | 3, 4, _, _, _, _ => exact h34
 | 3, 5, _, _, _, _ => exact h35
 | 3, 6, _, _, _, _ => exact h36
section
variable {live n : Nat} (hl1 : 1 <= live) (hl3 : live <= 3) (hn1 : 1 <= n) (hn6 : n <= 6)
include hl1 hl3 hn1 hn6
theorem allE_ok : allE live n = true := pick3 (p := fun a b => allE a b = true) allE_1_1 allE_1_2 allE_1_3 allE_1_4 allE_1_5 allE_1_6 allE_2_1 allE_2_2 allE_2_3 allE_2_4 allE_2_5 allE_2_6 allE_3_1 allE_3_2 allE_3_3 allE_3_4 allE_3_5 allE_3_6 hl1 hl3 hn1 hn6
theorem allN_ok : allN live n = true := pick3 (p := fun a b => allN a b = true) allN_1_1 allN_1_2 allN_1_3 allN_1_4 allN_1_5 allN_1_6 allN_2_1 allN_2_2 allN_2_3 allN_2_4 allN_2_5 allN_2_6 allN_3_1 allN_3_2 allN_3_3 allN_3_4 allN_3_5 allN_3_6 hl1 hl3 hn1 hn6
theorem all3_ok : all3 live n = true := pick3 (p := fun a b => all3 a b = true) all3_1_1 all3_1_2 all3_1_3 all3_1_4 all3_1_5 all3_1_6 all3_2_1 all3_2_2 all3_2_3 all3_2_4 all3_2_5 all3_2_6 all3_3_1 all3_3_2 all3_3_3 all3_3_4 all3_3_5 all3_3_6 hl1 hl3 hn1 hn6
theorem all4_ok : all4 live n = true := pick3 (p := fun a b => all4 a b = true) all4_1_1 all4_1_2 all4_1_3 all4_1_4 all4_1_5 all4_1_6 all4_2_1 all4_2_2 all4_2_3 all4_2_4 all4_2_5 all4_2_6 all4_3_1 all4_3_2 all4_3_3 all4_3_4 all4_3_5 all4_3_6 hl1 hl3 hn1 hn6
theorem all5_ok : all5 live n = true := pick3 (p := fun a b => all5 a b = true) all5_1_1 all5_1_2 all5_1_3 all5_1_4 all5_1_5 all5_1_6 all5_2_1 all5_2_2 all5_2_3 all5_2_4 all5_2_5 all5_2_6 all5_3_1 all5_3_2 all5_3_3 all5_3_4 all5_3_5 all5_3_6 hl1 hl3 hn1 hn6
theorem ex_ok {c j : Nat} (hc : c < live) (hj : j <= mN live n c) : rnF (exP live n c j) = true /\ rnF (tkPc live n c j) = true :=
 and'_ok (all_r (all_r (allE_ok hl1 hl3 hn1 hn6) hc) (Nat.lt_succ_of_le hj))
theorem en_ok {c v : Nat} (hc : c < live) (hv : v < n) : rnF (enP live n c v) = true := all_r (all_r (allN_ok hl1 hl3 hn1 hn6) hc) hv
theorem m1_ok {c v : Nat} (hc : c < live) (hv : v < n) : cM1 live n c v = true := (and'_ok (all_r (all_r (all3_ok hl1 hl3 hn1 hn6) hc) hv)).1
theorem u_ok {c v : Nat} (hc : c < live) (hv : v < n) : (v < mN live n c -> cUt live n c v = true) /\ (mN live n c <= v -> cUn live n c v = true) := by
 have h := (and'_ok (all_r (all_r (all3_ok hl1 hl3 hn1 hn6) hc) hv)).2
 refine ⟨fun h' => ?_, fun h' => ?_⟩
 ·rw [blt_t h'] at h; exact h
 ·rw [blt_f h'] at h; exact h
theorem st_ok {c j : Nat} (hc : c < live) (hj : j < mN live n c) : cSt live n c j = true /\ cFt live n c j = true := and'_ok (all_r (all_r (all4_ok hl1 hl3 hn1 hn6) hc) hj)
theorem s2_ok {c k : Nat} (hc : c < live) (hk : k < live) : (k + 1 < live -> cS2n live n c k = true) /\ ∀ j, j < mN live n c -> cS2t live n c j k = true := by
 have h := and'_ok (all_r (all_r (all5_ok hl1 hl3 hn1 hn6) hc) hk)
 refine ⟨fun h' => ?_, fun j hj => all_r h.2 hj⟩
 have h := h.1
 rw [blt_t h'] at h
 exact h
end
end Go.Proofs.YtgaghaggiblabaaGreatDoor.Ev.T
namespace Go.Proofs.YtgaghaggiblabaaGreatDoor.Ev.T
open Go Go.RowKit
open Mach (S up nxt)
def took : Mach.Loc -> Bool
 | .st .. => true | .u _ _ (some _) => true | .f _ _ (some _) => true | .done .. => true | _ => false
def EvOk (l l' : Mach.Loc) (e : AV) : Prop := if took l = took l' then e = .sn else ∃ x, Ok1 x 99 /\ e = .sv [x] false
theorem ok_shard (live n c j : Nat) : Ok1 (shardA live n c j) 125 := ok_agg (t := 124) (cl_shard live n c j)
theorem ok_stripe (live n c v o : Nat) : Ok1 (stripeA live n c v o) 136 := ok_agg (t := 135) (cl_stripe live n c v o)
theorem ok_walk (live c k : Nat) : Ok1 (walkA live c k) 73 := ok_agg (t := 72) (cl_walk live c k)
theorem gt_up {X : Nat -> AV} (h : GT X) {k : Nat} {v : AV} (hv : Ok1 v (cd k)) : GT (up X k v) := by
 intro j
 by_cases e : j = k
 ·subst e; rw [Mach.up_eq]; exact hv
 ·rw [Mach.up_ne e]; exact h j
theorem app_run {mem : List Fact} {a t a' t' e : AV} (h : rs mem a t a' t' e = true) {X : Nat -> AV} {C : Nat -> Int} (hX : GT X) (hC : HC C) (hm : MemC X C mem) (ho : otk a = true) (ho' : otk t = true) {A T : AV} (h1 : inst X C a = A) (h2 : inst X C t = T) :
  PurC 22 [A, T, i (C 100)] (.tup [inst X C a', inst X C t', inst X C e, i 0]) := by
 have := rn_put h hX.gxn hC hm (oktL_of hX _ (by rw [otkL, otkL, otkL, ho, ho']; rfl))
 rw [instL_cons, instL_cons, instL_cons, instL_nil, inst_cn, h1, h2, inst_tup, instL_cons, instL_cons, instL_cons, instL_cons, instL_nil, inst_i] at this
 exact this
theorem up_self {α : Type} {g : Nat -> α} {c : Nat} {v : α} (h : v = g c) : up g c v = g := by
 funext d
 unfold up
 split
 ·rename_i e; rw [e, h]
 ·rfl
section
variable {live n : Nat}
noncomputable def XQ (live n : Nat) (s : S) (X : Nat -> AV) : Nat -> AV := XS' live n (oA n s) (shA live n s) (strA live n s) X
theorem gt_xq {s : S} {X : Nat -> AV} (hX : GT X) : GT (XQ live n s X) := gt_xs (fun _ => .i) (fun _ => ok_shard ..) (fun _ => ok_stripe ..) hX
theorem xq_eq {s : S} {X : Nat -> AV} {k : Nat} (h1 : 10 <= k) (h2 : k < 50) : XQ live n s X k = X k := xs_eq k h1 h2
theorem cs_100 {num o : Nat} {N : Int} : CS num o N 100 = N := by unfold CS; simp
theorem cs_1 {num o : Nat} {N : Int} : CS num o N 1 = num := by unfold CS; simp
theorem cs_2 {num o : Nat} {N : Int} : CS num o N 2 = o := by unfold CS; simp
theorem inst_task {s : S} {X : Nat -> AV} {C : Nat -> Int} {num o : Nat} {N : Int} (hC : C 1 = (num : Int)) {p : AV} (h : tgr p = true) : inst (XQ live n s X) (CS num o N) p = inst X C p := inst_cg (fun _ h1 h2 => xq_eq h1 h2) (by rw [cs_1, hC]) p h
theorem own_q {s : S} (hs : Mach.Inv live n (mN live n) s) {q c : Nat} (hq : q < n) (h : Mach.hold (s.loc q) = some c) : oA n s c = i ((n + q + 1 : Nat) : Int) /\ s.stg c = Mach.stage (s.loc q) := by
 obtain ⟨h1, h2⟩ := hs.b.b1 q hq c h
 refine ⟨?_, h2⟩
 unfold oA ownN
 rw [h1, if_neg (by omega)]
 rfl
end
def StepOk (live n : Nat) (s : S) (q : Nat) (N : Int) (T : AV) : Prop := ∃ T' e, PurC 22 [arenaA live n s, T, i N] (.tup [arenaA live n (Mach.step live (mN live n) s q), T', e, i 0]) /\
 TaskRep live n (Mach.step live (mN live n) s q).vis (n + q + 1) ((Mach.step live (mN live n) s q).loc q) T' /\ EvOk (s.loc q) ((Mach.step live (mN live n) s q).loc q) e
structure Bd (live n : Nat) : Prop where
 l1 : 1 <= live
 l3 : live <= 3
 n1 : 1 <= n
 n6 : n <= 6
section
variable {live n : Nat}
theorem hcs (hb : Bd live n) {q : Nat} (hq : q < n) {N : Int} (hN1 : 1 <= N) (hN2 : N <= 100000000) {o : Nat} (h1 : 1 <= o) (h2 : o <= 99) : HC (CS (n + q + 1) o N) := hCS (by omega) (by have := hb.n6; omega) h1 h2 hN1 hN2
theorem mk_step {s : S} {q : Nat} {N : Int} {mem : List Fact} {a t a' t' e : AV} (h : rs mem a t a' t' e = true) (hb : Bd live n) (hq : q < n) (hN1 : 1 <= N) (hN2 : N <= 100000000) {XT : Nat -> AV} (hX : GT XT) {o : Nat} (ho1 : 1 <= o) (ho2 : o <= 99) (hm : MemC (XQ live n s XT) (CS (n + q + 1) o N) mem)
  (k1 : otk a = true) (k2 : otk t = true) {T : AV} (h1 : inst (XQ live n s XT) (CS (n + q + 1) o N) a = arenaA live n s) (h2 : inst (XQ live n s XT) (CS (n + q + 1) o N) t = T)
  (h3 : inst (XQ live n s XT) (CS (n + q + 1) o N) a' = arenaA live n (Mach.step live (mN live n) s q))
  (h4 : TaskRep live n (Mach.step live (mN live n) s q).vis (n + q + 1) ((Mach.step live (mN live n) s q).loc q) (inst (XQ live n s XT) (CS (n + q + 1) o N) t'))
  (h5 : EvOk (s.loc q) ((Mach.step live (mN live n) s q).loc q) (inst (XQ live n s XT) (CS (n + q + 1) o N) e)) : StepOk live n s q N T := by
 have key := app_run h (gt_xq hX) (hcs hb hq hN1 hN2 ho1 ho2) hm k1 k2 h1 h2
 rw [cs_100, h3] at key
 exact ⟨_, _, key, h4, h5⟩
theorem ev_sn {l l' : Mach.Loc} (h : took l = took l') {X : Nat -> AV} {C : Nat -> Int} : EvOk l l' (inst X C .sn) := by
 rw [inst_sn]; unfold EvOk; rw [if_pos h]
theorem arena_up {s s' : S} {c : Nat} {p r w : AV} (h : ∀ d, d ≠ c -> s'.own d = s.own d /\ s'.vis d = s.vis d /\ s'.stg d = s.stg d) (h1 : p = oA n s' c) (h2 : r = shA live n s' c) (h3 : w = strA live n s' c) :
  arW live n (up (oA n s) c p) (up (shA live n s) c r) (up (strA live n s) c w) = arenaA live n s' := by
 refine arW_congr ?_ ?_ ?_
 ·intro d _
  unfold up
  split
  ·rename_i e; rw [e, h1]
  ·rename_i e; unfold oA ownN; rw [(h d e).1]
 ·intro d _
  unfold up
  split
  ·rename_i e; rw [e, h2]
  ·rename_i e; unfold shA cont; rw [(h d e).2.1, (h d e).2.2]
 ·intro d _
  unfold up
  split
  ·rename_i e; rw [e, h3]
  ·rename_i e; unfold strA; rw [(h d e).2.1, (h d e).2.2]
variable {s : S} {XT : Nat -> AV} {C : Nat -> Int}
theorem inst_mine {c num o : Nat} {N : Int} (hc : c < 3) (h : oA n s c = i (num : Int)) : inst (XQ live n s XT) (CS num o N) (arO c cn1 (shT c)) = arenaA live n s := by
 unfold XQ
 rw [inst_arO hc, inst_sh hc, up_self rfl, up_self]
 ·rfl
 ·show inst _ _ (.cn 1) = _
  rw [inst_cn, cs_1, h]
theorem inst_all {C : Nat -> Int} : inst (XQ live n s XT) C ar0 = arenaA live n s := inst_ar0
theorem inst_allD {C : Nat -> Int} : inst (XQ live n s XT) C (arD live) = arenaA live n s := inst_arD
theorem step_busy (hb : Bd live n) (hs : Mach.Inv live n (mN live n) s) {q : Nat} (hq : q < n) {N : Int} (hN1 : 1 <= N) (hN2 : N <= 100000000) {T : AV} {c k : Nat} (hl : s.loc q = .lk c k) (ho : s.own c ≠ 0) (hT : TaskRep live n s.vis (n + q + 1) (s.loc q) T) : StepOk live n s q N T := by
 have ha := hs.v.a q hq
 rw [hl] at ha hT
 obtain ⟨XT, CT, hX, hC, hc, rfl⟩ := hT
 obtain ⟨r, hr, h1, _⟩ := hs.b.b2 c ho
 have hb3 := hb.l3
 have hb6 := hb.n6
 have hc3 : c < 3 := by have := ha.1; omega
 have hst : Mach.step live (mN live n) s q = s := Mach.step_spin ⟨c, k, hl, ho⟩
 have hbd : 1 <= ownN n s c /\ ownN n s c <= 99 := by unfold ownN; rw [if_neg ho]; omega
 have e1 : inst (XQ live n s XT) (CS (n + q + 1) (ownN n s c) N) (arO c (.cn 2) (shT c)) = arenaA live n s := by
  unfold XQ
  rw [inst_arO hc3, inst_cn, cs_2, inst_sh hc3, up_self rfl, up_self (g := oA n s) (v := i (ownN n s c : Nat)) rfl]
  rfl
 refine mk_step (and'_ok (all_r all2_ok hc3)).1 hb hq hN1 hN2 hX hbd.1 hbd.2 .nil (by match c, hc3 with | 0, _ => rfl | 1, _ => rfl | 2, _ => rfl) rfl e1 (inst_task hC rfl) (by rw [hst]; exact e1) ?_ (ev_sn (by rw [hst]))
 rw [hst, hl, inst_task hC rfl]
 exact ⟨XT, CT, hX, hC, hc, rfl⟩
end
end Go.Proofs.YtgaghaggiblabaaGreatDoor.Ev.T
namespace Go.Proofs.YtgaghaggiblabaaGreatDoor.Ev.T
open Go Go.RowKit
open Mach (S up nxt)
section
variable {live n : Nat} {s : S}
def tsA := And.intro @tkStart.eq_1 (And.intro @tkNew.eq_1 (And.intro @tkL.eq_1 (And.intro @tkM0.eq_1 (And.intro @tkM1.eq_1 (And.intro @tkLd.eq_1 (And.intro @tkS.eq_1 (And.intro @tkSt.eq_1 (And.intro @tkU.eq_1 (And.intro @tkF.eq_1 (And.intro @tkNx.eq_1 (And.intro @tkD.eq_1 (And.intro @tkP.eq_1 (And.intro @invP.eq_1 (And.intro @stpP.eq_1 (And.intro @secQ.eq_1 (And.intro @secN.eq_1 (And.intro @secE.eq_1 (And.intro @lkP.eq_1 (And.intro @snP.eq_1 (And.intro @outT.eq_1 (And.intro @out0'.eq_1 (And.intro @oh.eq_1 (And.intro @od.eq_1 (And.intro @oo.eq_1 (And.intro @ow.eq_1 (And.intro @cy.eq_1 (And.intro @stT.eq_1 (And.intro @cn1.eq_1 (And.intro @lkT.eq_1 (And.intro @y32.eq_1 (And.intro @y37.eq_1 (@y68.eq_1))))))))))))))))))))))))))))))))
theorem step_free (hb : Bd live n) (hs : Mach.Inv live n (mN live n) s) {q : Nat} (hq : q < n) {N : Int} (hN1 : 1 <= N) (hN2 : N <= 100000000) {T : AV} {c k : Nat} (hl : s.loc q = .lk c k) (ho : s.own c = 0) (hT : TaskRep live n s.vis (n + q + 1) (s.loc q) T) : StepOk live n s q N T := by
 have ha := hs.v.a q hq
 rw [hl] at ha hT
 obtain ⟨XT, CT, hX, hC, hc, rfl⟩ := hT
 have hb3 := hb.l3
 have hb6 := hb.n6
 have hc3 : c < 3 := by have := ha.1; omega
 have hst : Mach.step live (mN live n) s q = { s with loc := up s.loc q (.m0 c k), own := up s.own c (q + 1) } := by unfold Mach.step; rw [hl]; exact if_pos ho
 refine mk_step (o := 1) (and'_ok (and'_ok (all_r all2_ok hc3)).2).1 hb hq hN1 hN2 hX (by omega) (by omega) .nil (by match c, hc3 with | 0, _ => rfl | 1, _ => rfl | 2, _ => rfl) rfl ?_ (inst_task hC rfl) ?_ ?_ (ev_sn (by rw [hst, hl]; show took _ = took (up _ _ _ _); rw [Mach.up_eq]; rfl))
 ·unfold XQ
  rw [inst_arO hc3, inst_i, inst_sh hc3, up_self rfl, up_self (g := oA n s) (v := i 0) (by unfold oA ownN; rw [if_pos ho]; rfl)]
  rfl
 ·rw [hst]
  unfold XQ
  rw [inst_arO hc3, inst_sh hc3, <- up_self (g := strA live n s) (c := c) rfl]
  refine arena_up (fun d hd => ⟨Mach.up_ne hd, rfl, rfl⟩) ?_ rfl rfl
  show inst _ _ (.cn 1) = i (if up s.own c (q + 1) c = 0 then 0 else n + up s.own c (q + 1) c : Nat)
  rw [inst_cn, cs_1, Mach.up_eq, if_neg (by omega)]
  rfl
 ·rw [hst]
  show TaskRep _ _ _ _ (up _ _ _ _) _
  rw [Mach.up_eq, inst_task hC rfl]
  exact ⟨XT, CT, hX, hC, hc, rfl⟩
theorem step_m0 (hb : Bd live n) (hs : Mach.Inv live n (mN live n) s) {q : Nat} (hq : q < n) {N : Int} (hN1 : 1 <= N) (hN2 : N <= 100000000) {T : AV} {c k : Nat} (hl : s.loc q = .m0 c k) (hT : TaskRep live n s.vis (n + q + 1) (s.loc q) T) : StepOk live n s q N T := by
 have ha := hs.v.a q hq
 rw [hl] at ha hT
 obtain ⟨XT, CT, hX, hC, hc, rfl⟩ := hT
 have hb3 := hb.l3
 have hb6 := hb.n6
 have hc3 : c < 3 := by have := ha.1; omega
 obtain ⟨hown, hsg⟩ := own_q hs hq (c := c) (by rw [hl]; rfl)
 rw [hl] at hsg
 have hst : Mach.step live (mN live n) s q = { s with loc := up s.loc q (.m1 c k) } := by unfold Mach.step; rw [hl]
 refine mk_step (o := 1) (and'_ok (and'_ok (and'_ok (all_r all2_ok hc3)).2).2).1 hb hq hN1 hN2 hX (by omega) (by omega) .nil rfl rfl inst_all (inst_task hC rfl) (by rw [hst]; exact inst_all) ?_ (ev_sn (by rw [hst, hl]; show took _ = took (up _ _ _ _); rw [Mach.up_eq]; rfl))
 rw [hst]
 show TaskRep _ _ _ _ (up _ _ _ _) _
 rw [Mach.up_eq]
 have hv : strA live n s c = stripeA live n c (s.vis c) 0 := by unfold strA; rw [hsg]; rfl
 refine ⟨up XT 40 (strA live n s c), CT, gt_up hX (ok_stripe ..), hC, ⟨by rw [Mach.up_ne (by decide)]; exact hc, by rw [Mach.up_eq, hv]⟩, ?_⟩
 have e : inst (XQ live n s XT) (CS (n + q + 1) 1 N) (.ob (3 + c) 136) = strA live n s c := inst_st hc3
 show inst _ _ (tkM1 c _) = inst _ _ (tkM1 c stT)
 rw [inst_ob] at e
 simp [tsA, inst_agg, inst_sv, inst_ob, inst_cn, inst_i, inst_b, inst_sn, instL_cons, instL_nil, xq_eq, Mach.up_eq, Mach.up_ne, cs_1, cs_100]
 exact ⟨hC.symm, e⟩
theorem step_m1 (hb : Bd live n) (hs : Mach.Inv live n (mN live n) s) {q : Nat} (hq : q < n) {N : Int} (hN1 : 1 <= N) (hN2 : N <= 100000000) {T : AV} {c k : Nat} (hl : s.loc q = .m1 c k) (hT : TaskRep live n s.vis (n + q + 1) (s.loc q) T) : StepOk live n s q N T := by
 have ha := hs.v.a q hq
 rw [hl] at ha hT
 obtain ⟨XT, CT, hX, hC, hc, rfl⟩ := hT
 have hb3 := hb.l3
 have hb6 := hb.n6
 have hc3 : c < 3 := by have := ha.1; omega
 obtain ⟨hown, hsg⟩ := own_q hs hq (c := c) (by rw [hl]; rfl)
 rw [hl] at hsg
 have hst : Mach.step live (mN live n) s q = { s with loc := up s.loc q (.ld c k), stg := up s.stg c 1 } := by unfold Mach.step; rw [hl]
 have hv : s.vis c < n := hs.v.few hq ha.1 (by rw [hl]; show decide (1 <= Mach.dist live c c /\ Mach.dist live c c <= k) = false; rw [Mach.dist_self c (by have := hb.l1; omega)]; simp)
 refine mk_step (o := 1) (m1_ok hb.l1 hb.l3 hb.n1 hb.n6 ha.1 hv) hb hq hN1 hN2 hX (by omega) (by omega) .nil (by match c, hc3 with | 0, _ => rfl | 1, _ => rfl | 2, _ => rfl) rfl (inst_mine hc3 hown) ?_ ?_ ?_ (ev_sn (by rw [hst, hl]; show took _ = took (up _ _ _ _); rw [Mach.up_eq]; rfl))
 ·show inst _ _ (tkM1 c _) = inst _ _ (tkM1 c stT)
  have e := inst_c (X := XQ live n s XT) (C := CS (n + q + 1) 1 N) (cl_stripe live n c (s.vis c) 0)
  simp [tsA, inst_agg, inst_sv, inst_ob, inst_cn, inst_i, inst_b, inst_sn, instL_cons, instL_nil, xq_eq, Mach.up_eq, Mach.up_ne, cs_1, cs_100]
  exact ⟨hC.symm, e.trans hc.2.symm⟩
 ·rw [hst]
  unfold XQ
  rw [inst_arS hc3, inst_sh hc3, inst_c (cl_stripe ..)]
  refine arena_up (fun d hd => ⟨rfl, rfl, Mach.up_ne hd⟩) ?_ ?_ ?_
  ·show inst _ _ (.cn 1) = _
   rw [inst_cn, cs_1, <- hown]; rfl
  ·unfold shA cont
   show _ = shardA live n c (min (s.vis c + if up s.stg c 1 c = 2 then 1 else 0) _)
   rw [hsg, Mach.up_eq]; rfl
  ·unfold strA
   show _ = stripeA live n c (s.vis c) (if up s.stg c 1 c = 0 then 0 else 1)
   rw [Mach.up_eq]; rfl
 ·rw [hst]
  show TaskRep _ _ _ _ (up _ _ _ _) _
  rw [Mach.up_eq]
  refine ⟨up XT 40 (stripeA live n c (s.vis c) 1), CT, gt_up hX (ok_stripe ..), hC, ⟨by rw [Mach.up_ne (by decide)]; exact hc.1, by rw [Mach.up_eq]⟩, ?_⟩
  have e := inst_c (X := XQ live n s XT) (C := CS (n + q + 1) 1 N) (cl_stripe live n c (s.vis c) 1)
  show inst _ _ (tkLd c _) = inst _ _ (tkLd c stT)
  simp [tsA, inst_agg, inst_sv, inst_ob, inst_cn, inst_i, inst_b, inst_sn, instL_cons, instL_nil, xq_eq, Mach.up_eq, Mach.up_ne, cs_1, cs_100]
  exact ⟨hC.symm, e⟩
theorem step_ld (hb : Bd live n) (hs : Mach.Inv live n (mN live n) s) {q : Nat} (hq : q < n) {N : Int} (hN1 : 1 <= N) (hN2 : N <= 100000000) {T : AV} {c k : Nat} (hl : s.loc q = .ld c k) (hT : TaskRep live n s.vis (n + q + 1) (s.loc q) T) : StepOk live n s q N T := by
 have ha := hs.v.a q hq
 rw [hl] at ha hT
 obtain ⟨XT, CT, hX, hC, hc, rfl⟩ := hT
 have hb3 := hb.l3
 have hb6 := hb.n6
 have hc3 : c < 3 := by have := ha.1; omega
 obtain ⟨hown, hsg⟩ := own_q hs hq (c := c) (by rw [hl]; rfl)
 rw [hl] at hsg
 have hst : Mach.step live (mN live n) s q = { s with loc := up s.loc q (.s0 c k) } := by unfold Mach.step; rw [hl]
 refine mk_step (o := 1) (and'_ok (and'_ok (and'_ok (and'_ok (all_r all2_ok hc3)).2).2).2).1 hb hq hN1 hN2 hX (by omega) (by omega) .nil (by match c, hc3 with | 0, _ => rfl | 1, _ => rfl | 2, _ => rfl) rfl (inst_mine hc3 hown) (inst_task hC rfl) (by rw [hst]; exact inst_mine hc3 hown) ?_ (ev_sn (by rw [hst, hl]; show took _ = took (up _ _ _ _); rw [Mach.up_eq]; rfl))
 rw [hst]
 show TaskRep _ _ _ _ (up _ _ _ _) _
 rw [Mach.up_eq]
 refine ⟨up XT 38 (shA live n s c), CT, gt_up hX (ok_shard ..), hC, ⟨by rw [Mach.up_ne (by decide)]; exact hc.1, by rw [Mach.up_ne (by decide)]; exact hc.2, ?_⟩, ?_⟩
 ·rw [Mach.up_eq]; unfold shA cont; rw [hsg]; rfl
 ·have e : inst (XQ live n s XT) (CS (n + q + 1) 1 N) (shT c) = shA live n s c := inst_sh hc3
  show inst _ _ (tkS 0 c _ _ _ _) = inst _ _ (tkS 0 c (.ob 39 0) stT (.ob 38 125) ow)
  simp [tsA, inst_agg, inst_sv, inst_ob, inst_cn, inst_i, inst_b, inst_sn, instL_cons, instL_nil, xq_eq, Mach.up_eq, Mach.up_ne, cs_1, cs_100]
  exact ⟨hC.symm, e⟩
theorem step_s0 (hb : Bd live n) (hs : Mach.Inv live n (mN live n) s) {q : Nat} (hq : q < n) {N : Int} (hN1 : 1 <= N) (hN2 : N <= 100000000) {T : AV} {c k : Nat} (hl : s.loc q = .s0 c k) (hT : TaskRep live n s.vis (n + q + 1) (s.loc q) T) : StepOk live n s q N T := by
 have ha := hs.v.a q hq
 rw [hl] at ha hT
 obtain ⟨XT, CT, hX, hC, hc, rfl⟩ := hT
 have hb3 := hb.l3
 have hb6 := hb.n6
 have hc3 : c < 3 := by have := ha.1; omega
 have hst : Mach.step live (mN live n) s q = { s with loc := up s.loc q (.s1 c k) } := by unfold Mach.step; rw [hl]
 refine mk_step (o := 1) (and'_ok (and'_ok (and'_ok (and'_ok (and'_ok (all_r all2_ok hc3)).2).2).2).2).1 hb hq hN1 hN2 hX (by omega) (by omega) .nil rfl rfl inst_all (inst_task hC rfl) (by rw [hst]; exact inst_all) ?_ (ev_sn (by rw [hst, hl]; show took _ = took (up _ _ _ _); rw [Mach.up_eq]; rfl))
 rw [hst]
 show TaskRep _ _ _ _ (up _ _ _ _) _
 rw [Mach.up_eq, inst_task hC rfl]
 exact ⟨XT, CT, hX, hC, hc, rfl⟩
theorem step_s1 (hb : Bd live n) (hs : Mach.Inv live n (mN live n) s) {q : Nat} (hq : q < n) {N : Int} (hN1 : 1 <= N) (hN2 : N <= 100000000) {T : AV} {c k : Nat} (hl : s.loc q = .s1 c k) (hT : TaskRep live n s.vis (n + q + 1) (s.loc q) T) : StepOk live n s q N T := by
 have ha := hs.v.a q hq
 rw [hl] at ha hT
 obtain ⟨XT, CT, hX, hC, hc, rfl⟩ := hT
 have hb3 := hb.l3
 have hb6 := hb.n6
 have hc3 : c < 3 := by have := ha.1; omega
 have hst : Mach.step live (mN live n) s q = { s with loc := up s.loc q (.s2 c k) } := by unfold Mach.step; rw [hl]
 refine mk_step (o := 1) (and'_ok (and'_ok (and'_ok (and'_ok (and'_ok (all_r all2_ok hc3)).2).2).2).2).2 hb hq hN1 hN2 hX (by omega) (by omega) .nil rfl rfl inst_all (inst_task hC rfl) (by rw [hst]; exact inst_all) ?_ (ev_sn (by rw [hst, hl]; show took _ = took (up _ _ _ _); rw [Mach.up_eq]; rfl))
 rw [hst]
 show TaskRep _ _ _ _ (up _ _ _ _) _
 rw [Mach.up_eq]
 refine ⟨up XT 39 (i N), CT, gt_up hX ok_i, hC, ⟨by rw [Mach.up_ne (by decide)]; exact hc.1, by rw [Mach.up_ne (by decide)]; exact hc.2.1, by rw [Mach.up_ne (by decide)]; exact hc.2.2⟩, ?_⟩
 show inst _ _ (tkS 2 c _ _ _ _) = inst _ _ (tkS 2 c (.ob 39 0) stT (.ob 38 125) ow)
 simp [tsA, inst_agg, inst_sv, inst_ob, inst_cn, inst_i, inst_b, inst_sn, instL_cons, instL_nil, xq_eq, Mach.up_eq, Mach.up_ne, cs_1, cs_100]
 exact hC.symm
theorem ok_inst {X : Nat -> AV} {C : Nat -> Int} (hX : GT X) {t : Nat} {l : List AV} (h : nrf (.agg t l) = true) : Ok1 (inst X C (.agg t l)) (t + 1) := by
 have h1 := inst_nrf (C := C) (fun k => (hX k).nrf) _ h
 have h2 := inst_nt (X := X) (N := C) (fun k => (hX k).ntg) (.agg t l)
 rw [inst_agg] at h1 h2 ⊢
 exact ok_agg ⟨h1, h2⟩
theorem sum_m (hb : Bd live n) : Mach.sumN (mN live n) live = n := pick3 (p := fun a b => Mach.sumN (mN a b) a = b) rfl rfl rfl rfl rfl rfl rfl rfl rfl rfl rfl rfl rfl rfl rfl rfl rfl rfl hb.l1 hb.l3 hb.n1 hb.n6
theorem cl_res {l : List AV} (h : ∀ a, a ∈ l -> Cl a) : ntg (.tup l) = true := by rw [ntg]; exact ntgL_all fun a ha => (h a ha).ntg
theorem ntgL_cl {l : List AV} (h : ∀ a, a ∈ l -> Cl a) : ntgL l = true := ntgL_all fun a ha => (h a ha).ntg
theorem nrfL_cl {l : List AV} (h : ∀ a, a ∈ l -> Cl a) : nrfL l = true := nrfL_all fun a ha => (h a ha).nrf
theorem mem_look (hb : Bd live n) {c j : Nat} (hc : c < live) (hj : j <= mN live n c) {X : Nat -> AV} {C : Nat -> Int} : MemC X C [exP live n c j, tkPc live n c j] := by
 obtain ⟨h1, h2⟩ := ex_ok hb.l1 hb.l3 hb.n1 hb.n6 hc hj
 have g1 : ∀ a, a ∈ [shardA live n c j, i 0, i 0, i 1] -> Cl a := cl_cons (cl_shard ..) (cl_cons .i (cl_cons .i (cl_cons .i cl_nil)))
 have g2 : ∀ a, a ∈ [shardA live n c j, i 1, i 0, i 50, i 0, i 1] -> Cl a := cl_cons (cl_shard ..) (cl_cons .i (cl_cons .i (cl_cons .i (cl_cons .i (cl_cons .i cl_nil)))))
 have g3 : ntg (.tup [shardA live n c j, .sn, i 0]) = true := cl_res (cl_cons (cl_shard ..) (cl_cons .sn (cl_cons .i cl_nil)))
 refine .consC (rn_cl h1 .nil (ntgL_cl g1) g3) (ntgL_cl g1) g3 (nrfL_cl g1) ?_
 unfold tkPc at h2 ⊢
 have g4 : ntg (match (idsN live n c).drop j with | [] => AV.tup [shardA live n c j, .sn, i 0] | id :: _ => .tup [shardA live n c (j + 1), .sv [lease id] false, i 0]) = true := by
  split
  ·exact g3
  ·exact cl_res (cl_cons (cl_shard ..) (cl_cons (.sv (cl_cons (cl_lease _) cl_nil)) (cl_cons .i cl_nil)))
 exact .consC (rn_cl h2 .nil (ntgL_cl g2) g4) (ntgL_cl g2) g4 (nrfL_cl g2) .nil
theorem mem_end (hb : Bd live n) {c v : Nat} (hc : c < live) (hv : v < n) {X : Nat -> AV} {C : Nat -> Int} : MemC X C [enP live n c v] := by
 have h1 := en_ok hb.l1 hb.l3 hb.n1 hb.n6 hc hv
 have g1 : ∀ a, a ∈ [stripeA live n c v 1, shardA live n c (min (v + 1) (mN live n c)), i 0, i 1] -> Cl a := cl_cons (cl_stripe ..) (cl_cons (cl_shard ..) (cl_cons .i (cl_cons .i cl_nil)))
 have g3 : ntg (.tup [stripeA live n c (v + 1) 0, i 0]) = true := cl_res (cl_cons (cl_stripe ..) (cl_cons .i cl_nil))
 exact .consC (rn_cl h1 .nil (ntgL_cl g1) g3) (ntgL_cl g1) g3 (nrfL_cl g1) .nil
mutual
theorem otk_cl : ∀ a : AV, ntg a = true -> otk a = true
 | .pv a, h => by rw [otk]; exact otk_cl a (by rwa [ntg] at h)
 | .sv l f, h => by rw [otk]; exact otkL_cl l (by rwa [ntg] at h)
 | .agg t l, h => by rw [otk]; exact otkL_cl l (by rwa [ntg] at h)
 | .tup l, h => by rw [otk]; exact otkL_cl l (by rwa [ntg] at h)
 | .fn f fi ca, h => by
  have h := and'_ok (by rwa [ntg] at h)
  rw [otk, otkL_cl fi h.1, otkL_cl ca h.2]; rfl
 | .ob _ _, h => by rw [ntg] at h; cases h
 | .cn _, h => by rw [ntg] at h; cases h
 | .int .., _ => by rw [otk] <;> (intros; contradiction)
 | .bool _, _ => by rw [otk] <;> (intros; contradiction)
 | .str _, _ => by rw [otk] <;> (intros; contradiction)
 | .nilp, _ => by rw [otk] <;> (intros; contradiction)
 | .ptr .., _ => by rw [otk] <;> (intros; contradiction)
 | .sn, _ => by rw [otk] <;> (intros; contradiction)
 | .se, _ => by rw [otk] <;> (intros; contradiction)
 | .sr .., _ => by rw [otk] <;> (intros; contradiction)
 | .nilf, _ => by rw [otk] <;> (intros; contradiction)
 | .mp _, _ => by rw [otk] <;> (intros; contradiction)
 | .nilm, _ => by rw [otk] <;> (intros; contradiction)
 | .top, _ => by rw [otk] <;> (intros; contradiction)
theorem otkL_cl : ∀ l : List AV, ntgL l = true -> otkL l = true
 | [], _ => by rw [otkL]
 | a :: l, h => by
  have h := and'_ok (by rwa [ntgL] at h)
  rw [otkL, otk_cl a h.1, otkL_cl l h.2]; rfl
end
theorem otk_mine {c : Nat} (hc : c < 3) : otk (arO c cn1 (shT c)) = true := by
 match c, hc with
 | 0, _ => rfl
 | 1, _ => rfl
 | 2, _ => rfl
def tsB := And.intro @tkStart.eq_1 (And.intro @tkS.eq_1 (And.intro @tkU.eq_1 (And.intro @tkF.eq_1 (And.intro @tkSt.eq_1 (And.intro @tkNx.eq_1 (And.intro @tkP.eq_1 (And.intro @invP.eq_1 (And.intro @stpP.eq_1 (And.intro @secQ.eq_1 (And.intro @lkP.eq_1 (And.intro @snP.eq_1 (And.intro @outT.eq_1 (And.intro @out0'.eq_1 (And.intro @oh.eq_1 (And.intro @od.eq_1 (And.intro @oo.eq_1 (And.intro @ow.eq_1 (And.intro @cy.eq_1 (And.intro @stT.eq_1 (And.intro @arO.eq_1 (And.intro @arS.eq_1 (And.intro @slP.eq_1 (And.intro @stP.eq_1 (And.intro @st0.eq_1 (And.intro @arP.eq_1 (And.intro @shT.eq_1 (@cn1.eq_1)))))))))))))))))))))))))))
theorem step_s2t (hb : Bd live n) (hs : Mach.Inv live n (mN live n) s) {q : Nat} (hq : q < n) {N : Int} (hN1 : 1 <= N) (hN2 : N <= 100000000) {T : AV} {c k : Nat} (hl : s.loc q = .s2 c k) (hv : s.vis c < mN live n c) (hT : TaskRep live n s.vis (n + q + 1) (s.loc q) T) : StepOk live n s q N T := by
 have ha := hs.v.a q hq
 rw [hl] at ha hT
 obtain ⟨XT, CT, hX, hC, hc, rfl⟩ := hT
 have hb3 := hb.l3
 have hb6 := hb.n6
 have hc3 : c < 3 := by have := ha.1; omega
 have hst : Mach.step live (mN live n) s q = { s with loc := up s.loc q (.st c k (s.vis c)) } := by unfold Mach.step; rw [hl]; exact if_pos hv
 have hmin : min (s.vis c) (mN live n c) = s.vis c := by omega
 obtain ⟨c21, c40, c38⟩ := hc
 rw [hmin] at c38
 refine mk_step (o := 1) ((s2_ok hb.l1 hb.l3 hb.n1 hb.n6 ha.1 ha.2).2 _ hv) hb hq hN1 hN2 hX (by omega) (by omega) (mem_look hb ha.1 (by omega)) rfl (by simp [tsB, otk, otkL, cd, otk_cl _ (cl_shard ..).ntg, otk_cl _ (cl_stripe ..).ntg, otk_cl _ (cl_walk ..).ntg]) inst_all ?_ (by rw [hst]; exact inst_all) ?_ ?_
 ·show inst _ _ (tkS 2 c _ _ _ _) = inst _ _ (tkS 2 c (.ob 39 0) stT (.ob 38 125) ow)
  have e1 := inst_c (X := XQ live n s XT) (C := CS (n + q + 1) 1 N) (cl_shard live n c (s.vis c))
  have e2 := inst_c (X := XQ live n s XT) (C := CS (n + q + 1) 1 N) (cl_walk live c k)
  simp [tsA, inst_agg, inst_sv, inst_ob, inst_cn, inst_i, inst_b, inst_sn, instL_cons, instL_nil, xq_eq, Mach.up_eq, Mach.up_ne, cs_1, cs_100]
  exact ⟨hC.symm, e1.trans c38.symm, e2.trans c21.symm⟩
 ·rw [hst]
  show TaskRep _ _ _ _ (up _ _ _ _) _
  rw [Mach.up_eq]
  have e1 := inst_c (X := XQ live n s XT) (C := CS (n + q + 1) 1 N) (cl_shard live n c (s.vis c))
  have e2 := inst_c (X := XQ live n s XT) (C := CS (n + q + 1) 1 N) (cl_shard live n c (s.vis c + 1))
  have e3 := inst_c (X := XQ live n s XT) (C := CS (n + q + 1) 1 N) (cl_walk live (nxt live c) (k + 1))
  have hy : Ok1 y32 33 := ok_agg (.agg (cl_cons .i (cl_cons .sn cl_nil)))
  refine ⟨up (up (up XT 45 (shardA live n c (s.vis c + 1))) 43 y32) 21 (walkA live (nxt live c) (k + 1)), CT, gt_up (gt_up (gt_up hX (ok_shard ..)) hy) (ok_walk ..), hC, ⟨?_, ?_, ?_, ?_⟩, ?_⟩
  ·rw [Mach.up_eq]
  ·rw [Mach.up_ne (by decide), Mach.up_ne (by decide), Mach.up_ne (by decide)]; exact c40
  ·rw [Mach.up_ne (by decide), Mach.up_ne (by decide), Mach.up_ne (by decide)]; exact c38
  ·rw [Mach.up_ne (by decide), Mach.up_ne (by decide), Mach.up_eq]
  ·show inst _ _ (tkSt c _ _ _ _ _) = inst _ _ (tkSt c stT (.ob 38 125) (.ob 45 125) (.ob 43 33) ow)
   simp [tsA, inst_agg, inst_sv, inst_ob, inst_cn, inst_i, inst_b, inst_sn, instL_cons, instL_nil, xq_eq, Mach.up_eq, Mach.up_ne, cs_1, cs_100]
   exact ⟨hC.symm, ⟨e1.trans c38.symm, e2⟩, e3⟩
 ·rw [hst, hl]
  show EvOk _ (up _ _ _ _) _
  rw [Mach.up_eq]
  unfold EvOk
  rw [if_neg (by intro h; cases h)]
  unfold evA
  rw [inst_sv, instL_cons, instL_nil]
  exact ⟨_, ok_inst (gt_xq hX) rfl, rfl⟩
theorem step_s2n (hb : Bd live n) (hs : Mach.Inv live n (mN live n) s) {q : Nat} (hq : q < n) {N : Int} (hN1 : 1 <= N) (hN2 : N <= 100000000) {T : AV} {c k : Nat} (hl : s.loc q = .s2 c k) (hv : ¬ s.vis c < mN live n c) (hT : TaskRep live n s.vis (n + q + 1) (s.loc q) T) : StepOk live n s q N T := by
 have ha := hs.v.a q hq
 rw [hl] at ha hT
 obtain ⟨XT, CT, hX, hC, hc, rfl⟩ := hT
 have hb3 := hb.l3
 have hb6 := hb.n6
 have hc3 : c < 3 := by have := ha.1; omega
 have hst : Mach.step live (mN live n) s q = { s with loc := up s.loc q (.u c k none) } := by unfold Mach.step; rw [hl]; exact if_neg hv
 have hmin : min (s.vis c) (mN live n c) = mN live n c := by omega
 obtain ⟨c21, c40, c38⟩ := hc
 rw [hmin] at c38
 have hk := hs.v.last (sum_m hb) hq hl (by omega)
 refine mk_step (o := 1) ((s2_ok hb.l1 hb.l3 hb.n1 hb.n6 ha.1 ha.2).1 hk) hb hq hN1 hN2 hX (by omega) (by omega) (mem_look hb ha.1 (Nat.le_refl _)) rfl (by simp [tsB, otk, otkL, cd, otk_cl _ (cl_shard ..).ntg, otk_cl _ (cl_stripe ..).ntg, otk_cl _ (cl_walk ..).ntg]) inst_all ?_ (by rw [hst]; exact inst_all) ?_ (ev_sn (by rw [hst, hl]; show took _ = took (up _ _ _ _); rw [Mach.up_eq]; rfl))
 ·show inst _ _ (tkS 2 c _ _ _ _) = inst _ _ (tkS 2 c (.ob 39 0) stT (.ob 38 125) ow)
  have e1 := inst_c (X := XQ live n s XT) (C := CS (n + q + 1) 1 N) (cl_shard live n c (mN live n c))
  have e2 := inst_c (X := XQ live n s XT) (C := CS (n + q + 1) 1 N) (cl_walk live c k)
  simp [tsA, inst_agg, inst_sv, inst_ob, inst_cn, inst_i, inst_b, inst_sn, instL_cons, instL_nil, xq_eq, Mach.up_eq, Mach.up_ne, cs_1, cs_100]
  exact ⟨hC.symm, e1.trans c38.symm, e2.trans c21.symm⟩
 ·rw [hst]
  show TaskRep _ _ _ _ (up _ _ _ _) _
  rw [Mach.up_eq]
  have e1 := inst_c (X := XQ live n s XT) (C := CS (n + q + 1) 1 N) (cl_shard live n c (mN live n c))
  have e3 := inst_c (X := XQ live n s XT) (C := CS (n + q + 1) 1 N) (cl_walk live (nxt live c) (k + 1))
  refine ⟨up (up (up XT 45 (shardA live n c (mN live n c))) 43 (XT 32)) 21 (walkA live (nxt live c) (k + 1)), CT, gt_up (gt_up (gt_up hX (ok_shard ..)) (show Ok1 (XT 32) (cd 43) from hX 32)) (ok_walk ..), hC, ⟨?_, ?_, ?_⟩, ?_⟩
  ·rw [Mach.up_eq]
  ·rw [Mach.up_ne (by decide), Mach.up_ne (by decide), Mach.up_ne (by decide)]; exact c40
  ·rw [Mach.up_ne (by decide), Mach.up_ne (by decide), Mach.up_ne (by decide)]; exact c38
  ·show inst _ _ _ = inst _ _ (tkU c stT (.ob 38 125) (out0' (.ob 45 125)) cy)
   unfold out0
   simp [tsA, inst_agg, inst_sv, inst_ob, inst_cn, inst_i, inst_b, inst_sn, instL_cons, instL_nil, xq_eq, Mach.up_eq, Mach.up_ne, cs_1, cs_100]
   exact ⟨hC.symm, ⟨e1.trans c38.symm, e1⟩, e3⟩
theorem step_st (hb : Bd live n) (hs : Mach.Inv live n (mN live n) s) {q : Nat} (hq : q < n) {N : Int} (hN1 : 1 <= N) (hN2 : N <= 100000000) {T : AV} {c k j : Nat} (hl : s.loc q = .st c k j) (hT : TaskRep live n s.vis (n + q + 1) (s.loc q) T) : StepOk live n s q N T := by
 have ha := hs.v.a q hq
 rw [hl] at ha hT
 obtain ⟨XT, CT, hX, hC, hc, rfl⟩ := hT
 have hb3 := hb.l3
 have hb6 := hb.n6
 have hc3 : c < 3 := by have := ha.1; omega
 obtain ⟨hown, hsg⟩ := own_q hs hq (c := c) (by rw [hl]; rfl)
 rw [hl] at hsg
 have hst : Mach.step live (mN live n) s q = { s with loc := up s.loc q (.u c k (some j)), stg := up s.stg c 2 } := by unfold Mach.step; rw [hl]
 obtain ⟨c21, c40, c38, c45⟩ := hc
 obtain ⟨hc, _, hj, hjm⟩ := ha
 have hsh : shA live n s c = shardA live n c j := by unfold shA cont; rw [hsg]; show shardA live n c (min (s.vis c + 0) _) = _; rw [show min (s.vis c + 0) (mN live n c) = j by omega]
 refine mk_step (o := 1) (st_ok hb.l1 hb.l3 hb.n1 hb.n6 hc hjm).1 hb hq hN1 hN2 hX (by omega) (by omega) .nil (by match c, hc3 with | 0, _ => simp [tsB, otk, otkL, cd, otk_cl _ (cl_shard ..).ntg, otk_cl _ (cl_stripe ..).ntg, otk_cl _ (cl_walk ..).ntg] | 1, _ => simp [tsB, otk, otkL, cd, otk_cl _ (cl_shard ..).ntg, otk_cl _ (cl_stripe ..).ntg, otk_cl _ (cl_walk ..).ntg] | 2, _ => simp [tsB, otk, otkL, cd, otk_cl _ (cl_shard ..).ntg, otk_cl _ (cl_stripe ..).ntg, otk_cl _ (cl_walk ..).ntg]) (by simp [tsB, otk, otkL, cd, otk_cl _ (cl_shard ..).ntg, otk_cl _ (cl_stripe ..).ntg, otk_cl _ (cl_walk ..).ntg]) ?_ ?_ ?_ ?_ (ev_sn (by rw [hst, hl]; show took _ = took (up _ _ _ _); rw [Mach.up_eq]; rfl))
 ·unfold XQ
  rw [inst_arO hc3, inst_c (cl_shard ..), up_self (g := shA live n s) hsh.symm, up_self]
  ·rfl
  ·show inst _ _ (.cn 1) = _
   rw [inst_cn, cs_1, hown]
 ·show inst _ _ (tkSt c _ _ _ _ _) = inst _ _ (tkSt c stT (.ob 38 125) (.ob 45 125) (.ob 43 33) ow)
  have e1 := inst_c (X := XQ live n s XT) (C := CS (n + q + 1) 1 N) (cl_shard live n c (j + 1))
  simp [tsA, inst_agg, inst_sv, inst_ob, inst_cn, inst_i, inst_b, inst_sn, instL_cons, instL_nil, xq_eq, Mach.up_eq, Mach.up_ne, cs_1, cs_100]
  exact ⟨hC.symm, e1.trans c45.symm⟩
 ·rw [hst]
  unfold XQ
  rw [inst_arO hc3, inst_c (cl_shard ..), <- up_self (g := strA live n s) (c := c) rfl]
  refine arena_up (fun d hd => ⟨rfl, rfl, Mach.up_ne hd⟩) ?_ ?_ ?_
  ·show inst _ _ (.cn 1) = _
   rw [inst_cn, cs_1, <- hown]; rfl
  ·unfold shA cont
   show _ = shardA live n c (min (s.vis c + if up s.stg c 2 c = 2 then 1 else 0) _)
   rw [Mach.up_eq, if_pos rfl, show min (s.vis c + 1) (mN live n c) = j + 1 by omega]
  ·unfold strA
   show stripeA live n c (s.vis c) (if s.stg c = 0 then 0 else 1) = stripeA live n c (s.vis c) (if up s.stg c 2 c = 0 then 0 else 1)
   rw [Mach.up_eq, hsg]; rfl
 ·rw [hst]
  show TaskRep _ _ _ _ (up _ _ _ _) _
  rw [Mach.up_eq]
  refine ⟨up XT 35 .sn, CT, gt_up hX ⟨rfl, rfl, fun e => (by cases e), fun _ e => (by cases e), rfl⟩, hC, ⟨?_, ?_, ?_, ?_⟩, ?_⟩
  ·rw [Mach.up_ne (by decide)]; exact c21
  ·rw [Mach.up_ne (by decide)]; exact c40
  ·rw [Mach.up_ne (by decide)]; exact c38
  ·rw [Mach.up_ne (by decide)]; exact c45
  ·have e1 := inst_c (X := XQ live n s XT) (C := CS (n + q + 1) 1 N) (cl_shard live n c (j + 1))
   show inst _ _ (tkU c _ _ _ _) = inst _ _ (tkU c stT (.ob 38 125) (outT (.ob 45 125) (.ob 43 33)) cy)
   simp [tsA, inst_agg, inst_sv, inst_ob, inst_cn, inst_i, inst_b, inst_sn, instL_cons, instL_nil, xq_eq, Mach.up_eq, Mach.up_ne, cs_1, cs_100]
   exact ⟨hC.symm, e1.trans c45.symm⟩
theorem step_ut (hb : Bd live n) (hs : Mach.Inv live n (mN live n) s) {q : Nat} (hq : q < n) {N : Int} (hN1 : 1 <= N) (hN2 : N <= 100000000) {T : AV} {c k j : Nat} (hl : s.loc q = .u c k (some j)) (hT : TaskRep live n s.vis (n + q + 1) (s.loc q) T) : StepOk live n s q N T := by
 have ha := hs.v.a q hq
 rw [hl] at ha hT
 obtain ⟨XT, CT, hX, hC, hc, rfl⟩ := hT
 have hb3 := hb.l3
 have hb6 := hb.n6
 have hc3 : c < 3 := by have := ha.1; omega
 obtain ⟨hown, hsg⟩ := own_q hs hq (c := c) (by rw [hl]; rfl)
 rw [hl] at hsg
 have hst : Mach.step live (mN live n) s q = { s with loc := up s.loc q (.f c k (some j)), stg := up s.stg c 0, vis := up s.vis c (s.vis c + 1) } := by unfold Mach.step; rw [hl]
 obtain ⟨c21, c40, c38, c45⟩ := hc
 obtain ⟨hc, _, hj, hjm⟩ := ha
 have hv : s.vis c < n := hs.v.few hq hc (by rw [hl]; show decide (1 <= Mach.dist live c c /\ Mach.dist live c c <= k) = false; rw [Mach.dist_self c (by have := hb.l1; omega)]; simp)
 rw [hj] at c38 c45
 have e1 := inst_c (X := XQ live n s XT) (C := CS (n + q + 1) 1 N) (cl_stripe live n c (s.vis c) 1)
 have e2 := inst_c (X := XQ live n s XT) (C := CS (n + q + 1) 1 N) (cl_shard live n c (s.vis c + 1))
 refine mk_step (o := 1) ((u_ok hb.l1 hb.l3 hb.n1 hb.n6 hc hv).1 (by omega)) hb hq hN1 hN2 hX (by omega) (by omega) (mem_end hb hc hv) (by match c, hc3 with | 0, _ => rfl | 1, _ => rfl | 2, _ => rfl) (by simp [tsB, otk, otkL, cd, otk_cl _ (cl_shard ..).ntg, otk_cl _ (cl_stripe ..).ntg, otk_cl _ (cl_walk ..).ntg]) (inst_mine hc3 hown) ?_ ?_ ?_ (ev_sn (by rw [hst, hl]; show took _ = took (up _ _ _ _); rw [Mach.up_eq]; rfl))
 ·show inst _ _ (tkU c _ _ _ _) = inst _ _ (tkU c stT (.ob 38 125) (outT (.ob 45 125) (.ob 43 33)) cy)
  simp [tsA, inst_agg, inst_sv, inst_ob, inst_cn, inst_i, inst_b, inst_sn, instL_cons, instL_nil, xq_eq, Mach.up_eq, Mach.up_ne, cs_1, cs_100]
  exact ⟨hC.symm, e1.trans c40.symm, e2.trans c45.symm⟩
 ·rw [hst]
  unfold XQ
  rw [inst_arS hc3, inst_sh hc3, inst_c (cl_stripe ..)]
  refine arena_up (fun d hd => ⟨rfl, Mach.up_ne hd, Mach.up_ne hd⟩) ?_ ?_ ?_
  ·show inst _ _ (.cn 1) = _
   rw [inst_cn, cs_1, <- hown]; rfl
  ·unfold shA cont
   show _ = shardA live n c (min (up s.vis c (s.vis c + 1) c + if up s.stg c 0 c = 2 then 1 else 0) _)
   rw [hsg, Mach.up_eq, Mach.up_eq]
   rfl
  ·unfold strA
   show _ = stripeA live n c (up s.vis c (s.vis c + 1) c) (if up s.stg c 0 c = 0 then 0 else 1)
   rw [Mach.up_eq, Mach.up_eq]; rfl
 ·rw [hst]
  show TaskRep _ _ _ _ (up _ _ _ _) _
  rw [Mach.up_eq]
  refine ⟨XT, CT, hX, hC, by rw [hj]; exact c38, ?_⟩
  show inst _ _ (tkF c _ _ _ _) = inst _ _ (tkF c stT (.ob 38 125) (outT (.ob 45 125) (.ob 43 33)) ow)
  simp [tsA, inst_agg, inst_sv, inst_ob, inst_cn, inst_i, inst_b, inst_sn, instL_cons, instL_nil, xq_eq, Mach.up_eq, Mach.up_ne, cs_1, cs_100]
  exact ⟨hC.symm, e1.trans c40.symm, e2.trans c45.symm⟩
theorem step_un (hb : Bd live n) (hs : Mach.Inv live n (mN live n) s) {q : Nat} (hq : q < n) {N : Int} (hN1 : 1 <= N) (hN2 : N <= 100000000) {T : AV} {c k : Nat} (hl : s.loc q = .u c k none) (hT : TaskRep live n s.vis (n + q + 1) (s.loc q) T) : StepOk live n s q N T := by
 have ha := hs.v.a q hq
 rw [hl] at ha hT
 obtain ⟨XT, CT, hX, hC, hc, rfl⟩ := hT
 have hb3 := hb.l3
 have hb6 := hb.n6
 have hc3 : c < 3 := by have := ha.1; omega
 obtain ⟨hown, hsg⟩ := own_q hs hq (c := c) (by rw [hl]; rfl)
 rw [hl] at hsg
 have hst : Mach.step live (mN live n) s q = { s with loc := up s.loc q (.f c k none), stg := up s.stg c 0, vis := up s.vis c (s.vis c + 1) } := by unfold Mach.step; rw [hl]
 obtain ⟨c21, c40, c38⟩ := hc
 obtain ⟨hc, _, hjm⟩ := ha
 have hv : s.vis c < n := hs.v.few hq hc (by rw [hl]; show decide (1 <= Mach.dist live c c /\ Mach.dist live c c <= k) = false; rw [Mach.dist_self c (by have := hb.l1; omega)]; simp)
 have e1 := inst_c (X := XQ live n s XT) (C := CS (n + q + 1) 1 N) (cl_stripe live n c (s.vis c) 1)
 have e2 := inst_c (X := XQ live n s XT) (C := CS (n + q + 1) 1 N) (cl_shard live n c (mN live n c))
 refine mk_step (o := 1) ((u_ok hb.l1 hb.l3 hb.n1 hb.n6 hc hv).2 hjm) hb hq hN1 hN2 hX (by omega) (by omega) (mem_end hb hc hv) (by match c, hc3 with | 0, _ => rfl | 1, _ => rfl | 2, _ => rfl) (by simp [tsB, otk, otkL, cd, otk_cl _ (cl_shard ..).ntg, otk_cl _ (cl_stripe ..).ntg, otk_cl _ (cl_walk ..).ntg]) (inst_mine hc3 hown) ?_ ?_ ?_ (ev_sn (by rw [hst, hl]; show took _ = took (up _ _ _ _); rw [Mach.up_eq]; rfl))
 ·show inst _ _ (tkU c _ _ _ _) = inst _ _ (tkU c stT (.ob 38 125) (out0' (.ob 45 125)) cy)
  simp [tsA, inst_agg, inst_sv, inst_ob, inst_cn, inst_i, inst_b, inst_sn, instL_cons, instL_nil, xq_eq, Mach.up_eq, Mach.up_ne, cs_1, cs_100]
  exact ⟨hC.symm, e2.trans c38.symm, e1.trans c40.symm⟩
 ·rw [hst]
  unfold XQ
  rw [inst_arS hc3, inst_sh hc3, inst_c (cl_stripe ..)]
  refine arena_up (fun d hd => ⟨rfl, Mach.up_ne hd, Mach.up_ne hd⟩) ?_ ?_ ?_
  ·show inst _ _ (.cn 1) = _
   rw [inst_cn, cs_1, <- hown]; rfl
  ·unfold shA cont
   show _ = shardA live n c (min (up s.vis c (s.vis c + 1) c + if up s.stg c 0 c = 2 then 1 else 0) _)
   rw [hsg, Mach.up_eq, Mach.up_eq]
   show shardA live n c (min (s.vis c + 0) _) = shardA live n c (min (s.vis c + 1 + 0) _)
   rw [show min (s.vis c + 0) (mN live n c) = min (s.vis c + 1 + 0) (mN live n c) by omega]
  ·unfold strA
   show _ = stripeA live n c (up s.vis c (s.vis c + 1) c) (if up s.stg c 0 c = 0 then 0 else 1)
   rw [Mach.up_eq, Mach.up_eq]; rfl
 ·rw [hst]
  show TaskRep _ _ _ _ (up _ _ _ _) _
  rw [Mach.up_eq]
  refine ⟨XT, CT, hX, hC, c21, ?_⟩
  show inst _ _ (tkF c _ _ _ _) = inst _ _ (tkF c stT (.ob 38 125) (out0' (.ob 45 125)) ow)
  simp [tsA, inst_agg, inst_sv, inst_ob, inst_cn, inst_i, inst_b, inst_sn, instL_cons, instL_nil, xq_eq, Mach.up_eq, Mach.up_ne, cs_1, cs_100]
  exact ⟨hC.symm, e2.trans c38.symm, e1.trans c40.symm⟩
theorem step_ft (hb : Bd live n) (hs : Mach.Inv live n (mN live n) s) {q : Nat} (hq : q < n) {N : Int} (hN1 : 1 <= N) (hN2 : N <= 100000000) {T : AV} {c k j : Nat} (hl : s.loc q = .f c k (some j)) (hT : TaskRep live n s.vis (n + q + 1) (s.loc q) T) : StepOk live n s q N T := by
 have ha := hs.v.a q hq
 rw [hl] at ha hT
 obtain ⟨XT, CT, hX, hC, hc, rfl⟩ := hT
 have hb3 := hb.l3
 have hb6 := hb.n6
 have hc3 : c < 3 := by have := ha.1; omega
 obtain ⟨hown, hsg⟩ := own_q hs hq (c := c) (by rw [hl]; rfl)
 rw [hl] at hsg
 have hst : Mach.step live (mN live n) s q = { s with loc := up s.loc q (.done c k j), own := up s.own c 0 } := by unfold Mach.step; rw [hl]
 obtain ⟨hc', _, hjm, _⟩ := ha
 refine mk_step (o := 1) (st_ok hb.l1 hb.l3 hb.n1 hb.n6 hc' hjm).2 hb hq hN1 hN2 hX (by omega) (by omega) (mem_look hb hc' (Nat.le_of_lt hjm)) (by match c, hc3 with | 0, _ => rfl | 1, _ => rfl | 2, _ => rfl) (by simp [tsB, otk, otkL, cd, otk_cl _ (cl_shard ..).ntg, otk_cl _ (cl_stripe ..).ntg, otk_cl _ (cl_walk ..).ntg]) (inst_mine hc3 hown) ?_ ?_ ?_ (ev_sn (by rw [hst, hl]; show took _ = took (up _ _ _ _); rw [Mach.up_eq]; rfl))
 ·show inst _ _ (tkF c _ _ _ _) = inst _ _ (tkF c stT (.ob 38 125) (outT (.ob 45 125) (.ob 43 33)) ow)
  have e1 := inst_c (X := XQ live n s XT) (C := CS (n + q + 1) 1 N) (cl_shard live n c j)
  replace hc : XT 38 = shardA live n c j := hc
  simp [tsA, inst_agg, inst_sv, inst_ob, inst_cn, inst_i, inst_b, inst_sn, instL_cons, instL_nil, xq_eq, Mach.up_eq, Mach.up_ne, cs_1, cs_100]
  exact ⟨hC.symm, e1.trans hc.symm⟩
 ·rw [hst]
  unfold XQ
  rw [inst_arO hc3, inst_i, inst_sh hc3, <- up_self (g := strA live n s) (c := c) rfl]
  refine arena_up (fun d hd => ⟨Mach.up_ne hd, rfl, rfl⟩) ?_ rfl rfl
  show i 0 = i (if up s.own c 0 c = 0 then 0 else n + up s.own c 0 c : Nat)
  rw [Mach.up_eq, if_pos rfl]; rfl
 ·rw [hst]
  show TaskRep _ _ _ _ (up _ _ _ _) _
  rw [Mach.up_eq]
  refine ⟨up XT 39 (i N), CT, gt_up hX ok_i, hC, trivial, ?_⟩
  have e1 : ∀ (X : Nat -> AV) (C : Nat -> Int), inst X C (resA (idN live n c j) c) = resA (idN live n c j) c := fun X C => inst_c (.agg (cl_cons .i (cl_cons .i (cl_cons (.sv (cl_cons (.sv (cl_map (fun _ => ⟨rfl, rfl⟩) _)) cl_nil)) (cl_cons (.sv (cl_cons .str cl_nil)) (cl_cons .i (cl_cons .i (cl_cons .i cl_nil))))))))
  show inst _ _ (tkD cn1 (.cn 100) _ c) = inst _ _ (tkD cn1 (.ob 39 0) _ c)
  simp [tkD, secZ, invP, stpP, oh, cn1, y32, y37, y68, inst_agg, inst_sv, inst_ob, inst_cn, inst_i, inst_b, inst_sn, instL_cons, instL_nil, xq_eq, Mach.up_eq, Mach.up_ne, cs_1, cs_100, e1]
  exact hC.symm
theorem step_fn (hb : Bd live n) (hs : Mach.Inv live n (mN live n) s) {q : Nat} (hq : q < n) {N : Int} (hN1 : 1 <= N) (hN2 : N <= 100000000) {T : AV} {c k : Nat} (hl : s.loc q = .f c k none) (hT : TaskRep live n s.vis (n + q + 1) (s.loc q) T) : StepOk live n s q N T := by
 have ha := hs.v.a q hq
 rw [hl] at ha hT
 obtain ⟨XT, CT, hX, hC, hc, rfl⟩ := hT
 have hb3 := hb.l3
 have hb6 := hb.n6
 have hc3 : c < 3 := by have := ha.1; omega
 obtain ⟨hown, hsg⟩ := own_q hs hq (c := c) (by rw [hl]; rfl)
 rw [hl] at hsg
 have hst : Mach.step live (mN live n) s q = { s with loc := up s.loc q (.nx (nxt live c) (k + 1)), own := up s.own c 0 } := by unfold Mach.step; rw [hl]; rfl
 obtain ⟨hc', hk, _⟩ := ha
 have hrun : cFn live c k = true := by
  have hl1 := hb.l1
  have h1 := all_r (n := 3) all6_ok (show live - 1 < 3 by omega)
  have h2 := and'_ok (all_r (all_r h1 (show c < live - 1 + 1 by omega)) (show k < live - 1 + 1 by omega))
  have h3 := h2.1
  rw [blt_t (show k + 1 < live - 1 + 1 by omega), show live - 1 + 1 = live by omega] at h3
  exact h3
 have hrun' : rs [] (arO c cn1 (shT c)) (tkF c stT (.ob 38 125) (out0' (.ob 45 125)) (walkA live (nxt live c) (k + 1))) (arO c (i 0) (shT c)) (tkNx (secE c stT (.ob 38 125) (out0' (.ob 45 125))) (walkA live (nxt live c) (k + 1)) (i c)) .sn = true := hrun
 have e1 := inst_c (X := XQ live n s XT) (C := CS (n + q + 1) 1 N) (cl_walk live (nxt live c) (k + 1))
 replace hc : XT 21 = walkA live (nxt live c) (k + 1) := hc
 refine mk_step (o := 1) hrun' hb hq hN1 hN2 hX (by omega) (by omega) .nil (otk_mine hc3) (by simp [tsB, otk, otkL, cd, otk_cl _ (cl_shard ..).ntg, otk_cl _ (cl_stripe ..).ntg, otk_cl _ (cl_walk ..).ntg]) (inst_mine hc3 hown) ?_ ?_ ?_ (ev_sn (by rw [hst, hl]; show took _ = took (up _ _ _ _); rw [Mach.up_eq]; rfl))
 ·show inst _ _ (tkF c _ _ _ _) = inst _ _ (tkF c stT (.ob 38 125) (out0' (.ob 45 125)) ow)
  simp [tsA, inst_agg, inst_sv, inst_ob, inst_cn, inst_i, inst_b, inst_sn, instL_cons, instL_nil, xq_eq, Mach.up_eq, Mach.up_ne, cs_1, cs_100]
  exact ⟨hC.symm, e1.trans hc.symm⟩
 ·rw [hst]
  unfold XQ
  rw [inst_arO hc3, inst_i, inst_sh hc3, <- up_self (g := strA live n s) (c := c) rfl]
  refine arena_up (fun d hd => ⟨Mach.up_ne hd, rfl, rfl⟩) ?_ rfl rfl
  show i 0 = i (if up s.own c 0 c = 0 then 0 else n + up s.own c 0 c : Nat)
  rw [Mach.up_eq, if_pos rfl]; rfl
 ·rw [hst]
  show TaskRep _ _ _ _ (up _ _ _ _) _
  rw [Mach.up_eq]
  have hse : Ok1 (inst (XQ live n s XT) (CS (n + q + 1) 1 N) (secE c stT (.ob 38 125) (out0' (.ob 45 125)))) 71 := ok_inst (gt_xq hX) rfl
  refine ⟨up (up XT 30 (inst (XQ live n s XT) (CS (n + q + 1) 1 N) (secE c stT (.ob 38 125) (out0' (.ob 45 125))))) 22 (i c), CT, gt_up (gt_up hX hse) ok_i, hC, ?_, ?_⟩
  ·show up _ _ _ 21 = _
   rw [Mach.up_ne (by decide), Mach.up_ne (by decide)]; exact hc
  ·show inst _ _ (tkNx _ _ _) = inst _ _ (tkNx (.ob 30 71) ow (.ob 22 0))
   generalize secE c stT (.ob 38 125) (out0' (.ob 45 125)) = sx
   simp [tsA, inst_agg, inst_sv, inst_ob, inst_cn, inst_i, inst_b, inst_sn, instL_cons, instL_nil, xq_eq, Mach.up_eq, Mach.up_ne, cs_1, cs_100]
   exact ⟨hC.symm, e1.trans hc.symm⟩
theorem step_nx (hb : Bd live n) (hs : Mach.Inv live n (mN live n) s) {q : Nat} (hq : q < n) {N : Int} (hN1 : 1 <= N) (hN2 : N <= 100000000) {T : AV} {c k : Nat} (hl : s.loc q = .nx c k) (hT : TaskRep live n s.vis (n + q + 1) (s.loc q) T) : StepOk live n s q N T := by
 have ha := hs.v.a q hq
 rw [hl] at ha hT
 obtain ⟨XT, CT, hX, hC, hc, rfl⟩ := hT
 have hb3 := hb.l3
 have hb6 := hb.n6
 have hc3 : c < 3 := by have := ha.1; omega
 have hst : Mach.step live (mN live n) s q = { s with loc := up s.loc q (.lk c k) } := by unfold Mach.step; rw [hl]
 obtain ⟨hc', hk⟩ := ha
 have hrun : cNx live c k = true := by
  have hl1 := hb.l1
  have h1 := all_r (n := 3) all6_ok (show live - 1 < 3 by omega)
  have h2 := and'_ok (all_r (all_r h1 (show c < live - 1 + 1 by omega)) (show k < live - 1 + 1 by omega))
  have h3 := h2.2
  rw [show live - 1 + 1 = live by omega] at h3
  exact h3
 have e1 := inst_c (X := XQ live n s XT) (C := CS (n + q + 1) 1 N) (cl_walk live c k)
 have e2 := inst_c (X := XQ live n s XT) (C := CS (n + q + 1) 1 N) (cl_dir live)
 replace hc : XT 21 = walkA live c k := hc
 have o1 : otk (arD live) = true := by simp [arD, st0, arP, otk, otkL, cd, otk_cl _ (cl_dir live).ntg]
 refine mk_step (o := 1) hrun hb hq hN1 hN2 hX (by omega) (by omega) .nil o1 (by simp [tsB, otk, otkL, cd, otk_cl _ (cl_shard ..).ntg, otk_cl _ (cl_stripe ..).ntg, otk_cl _ (cl_walk ..).ntg]) inst_allD ?_ (by rw [hst]; exact inst_allD) ?_ (ev_sn (by rw [hst, hl]; show took _ = took (up _ _ _ _); rw [Mach.up_eq]; rfl))
 ·show inst _ _ (tkNx _ _ _) = inst _ _ (tkNx (.ob 30 71) ow (.ob 22 0))
  simp [tsA, inst_agg, inst_sv, inst_ob, inst_cn, inst_i, inst_b, inst_sn, instL_cons, instL_nil, xq_eq, Mach.up_eq, Mach.up_ne, cs_1, cs_100]
  exact ⟨hC.symm, e1.trans hc.symm⟩
 ·rw [hst]
  show TaskRep _ _ _ _ (up _ _ _ _) _
  rw [Mach.up_eq]
  have g1 : Ok1 (.agg 37 [i 0, .sn, .sn]) 38 := ok_agg (.agg (cl_cons .i (cl_cons .sn (cl_cons .sn cl_nil))))
  have hy : Cl (.agg 32 [i 0, .sn]) := .agg (cl_cons .i (cl_cons .sn cl_nil))
  have g2 : Ok1 (.agg 68 [.sn, .agg 32 [i 0, .sn], .sn, .sn, .sn]) 69 := ok_agg (.agg (cl_cons .sn (cl_cons hy (cl_cons .sn (cl_cons .sn (cl_cons .sn cl_nil))))))
  have g3 : Ok1 .sn 0 := ⟨rfl, rfl, fun e => (by cases e), fun _ e => (by cases e), rfl⟩
  have g4 : Ok1 (dirA live) 38 := ok_agg (cl_dir live)
  refine ⟨up (up (up (up (up (up XT 32 (.agg 32 [i 0, .sn])) 33 (.agg 37 [i 0, .sn, .sn])) 34 (.agg 68 [.sn, .agg 32 [i 0, .sn], .sn, .sn, .sn])) 35 .sn) 39 (i 0)) 20 (dirA live), CT, gt_up (gt_up (gt_up (gt_up (gt_up (gt_up hX (show Ok1 _ 33 from ok_agg hy)) g1) g2) g3) ok_i) g4, hC, ?_, ?_⟩
  ·show up _ _ _ 21 = _
   simp only [Mach.up_ne (show (21 : Nat) ≠ 20 by decide), Mach.up_ne (show (21 : Nat) ≠ 39 by decide), Mach.up_ne (show (21 : Nat) ≠ 35 by decide), Mach.up_ne (show (21 : Nat) ≠ 34 by decide), Mach.up_ne (show (21 : Nat) ≠ 33 by decide), Mach.up_ne (show (21 : Nat) ≠ 32 by decide)]
   exact hc
  ·show inst _ _ (tkP oh 1 (secN c) (dirA live) (walkA live c k) (i c)) = inst _ _ (tkL c)
   simp [tsA, inst_agg, inst_sv, inst_ob, inst_cn, inst_i, inst_b, inst_sn, instL_cons, instL_nil, xq_eq, Mach.up_eq, Mach.up_ne, cs_1, cs_100]
   exact ⟨hC.symm, e2, e1.trans hc.symm⟩
theorem step_start (hb : Bd live n) (hs : Mach.Inv live n (mN live n) s) {q : Nat} (hq : q < n) {N : Int} (hN1 : 1 <= N) (hN2 : N <= 100000000) {T : AV} {h : Nat} (hl : s.loc q = .start h) (hT : TaskRep live n s.vis (n + q + 1) (s.loc q) T) : StepOk live n s q N T := by
 have ha := hs.v.a q hq
 rw [hl] at ha hT
 obtain ⟨XT, CT, hX, hC, hc, rfl⟩ := hT
 have hb3 := hb.l3
 have hb6 := hb.n6
 have hh : h < 3 := ha
 have hst : Mach.step live (mN live n) s q = { s with loc := up s.loc q (.lk (Mach.home live h) 0) } := by unfold Mach.step; rw [hl]
 have hrun : cStart live h = true := by
  have hl1 := hb.l1
  have h1 := all_r (all_r (n := 3) all1_ok (show live - 1 < 3 by omega)) hh
  rw [show live - 1 + 1 = live by omega] at h1
  exact h1
 have e1 := inst_c (X := XQ live n s XT) (C := CS (n + q + 1) 1 N) (cl_walk live (Mach.home live h) 0)
 have e2 := inst_c (X := XQ live n s XT) (C := CS (n + q + 1) 1 N) (cl_dir live)
 have o1 : otk (arD live) = true := by simp [arD, st0, arP, otk, otkL, cd, otk_cl _ (cl_dir live).ntg]
 refine mk_step (o := 1) hrun hb hq hN1 hN2 hX (by omega) (by omega) .nil o1 (by simp [tsB, otk, otkL, cd, otk_cl _ (cl_shard ..).ntg, otk_cl _ (cl_stripe ..).ntg, otk_cl _ (cl_walk ..).ntg]) inst_allD (inst_task hC rfl) (by rw [hst]; exact inst_allD) ?_ (ev_sn (by rw [hst, hl]; show took _ = took (up _ _ _ _); rw [Mach.up_eq]; rfl))
 rw [hst]
 show TaskRep _ _ _ _ (up _ _ _ _) _
 rw [Mach.up_eq]
 have g1 : Ok1 (.agg 37 [i 0, .sn, .sn]) 38 := ok_agg (.agg (cl_cons .i (cl_cons .sn (cl_cons .sn cl_nil))))
 have hy : Cl (.agg 32 [i 0, .sn]) := .agg (cl_cons .i (cl_cons .sn cl_nil))
 have g2 : Ok1 (.agg 68 [.sn, .agg 32 [i 0, .sn], .sn, .sn, .sn]) 69 := ok_agg (.agg (cl_cons .sn (cl_cons hy (cl_cons .sn (cl_cons .sn (cl_cons .sn cl_nil))))))
 have g3 : Ok1 .sn 0 := ⟨rfl, rfl, fun e => (by cases e), fun _ e => (by cases e), rfl⟩
 have g4 : Ok1 (dirA live) 38 := ok_agg (cl_dir live)
 refine ⟨up (up (up (up (up (up (up (up XT 32 (.agg 32 [i 0, .sn])) 33 (.agg 37 [i 0, .sn, .sn])) 34 (.agg 68 [.sn, .agg 32 [i 0, .sn], .sn, .sn, .sn])) 35 .sn) 39 (i 0)) 20 (dirA live)) 11 (i h)) 21 (walkA live (Mach.home live h) 0), CT, gt_up (gt_up (gt_up (gt_up (gt_up (gt_up (gt_up (gt_up hX (show Ok1 _ 33 from ok_agg hy)) g1) g2) g3) ok_i) g4) ok_i) (ok_walk ..), hC, ?_, ?_⟩
 ·show up _ _ _ 21 = _
  rw [Mach.up_eq]
 ·show inst _ _ (tkNew (i h) (dirA live) (Mach.home live h) (walkA live (Mach.home live h) 0)) = inst _ _ (tkL (Mach.home live h))
  simp [tsA, inst_agg, inst_sv, inst_ob, inst_cn, inst_i, inst_b, inst_sn, instL_cons, instL_nil, xq_eq, Mach.up_eq, Mach.up_ne, cs_1, cs_100]
  exact ⟨hC.symm, e2, e1⟩
theorem step_rep (hb : Bd live n) (hs : Mach.Inv live n (mN live n) s) {q : Nat} (hq : q < n) {N : Int} (hN1 : 1 <= N) (hN2 : N <= 100000000) {T : AV} (hd : Mach.isDone (s.loc q) = false) (hT : TaskRep live n s.vis (n + q + 1) (s.loc q) T) : StepOk live n s q N T := by
 cases hl : s.loc q with
 | start h => exact step_start hb hs hq hN1 hN2 hl hT
 | lk c k =>
  by_cases ho : s.own c = 0
  ·exact step_free hb hs hq hN1 hN2 hl ho hT
  ·exact step_busy hb hs hq hN1 hN2 hl ho hT
 | m0 c k => exact step_m0 hb hs hq hN1 hN2 hl hT
 | m1 c k => exact step_m1 hb hs hq hN1 hN2 hl hT
 | ld c k => exact step_ld hb hs hq hN1 hN2 hl hT
 | s0 c k => exact step_s0 hb hs hq hN1 hN2 hl hT
 | s1 c k => exact step_s1 hb hs hq hN1 hN2 hl hT
 | s2 c k =>
  by_cases hv : s.vis c < mN live n c
  ·exact step_s2t hb hs hq hN1 hN2 hl hv hT
  ·exact step_s2n hb hs hq hN1 hN2 hl hv hT
 | st c k j => exact step_st hb hs hq hN1 hN2 hl hT
 | u c k o =>
  cases o with
  | none => exact step_un hb hs hq hN1 hN2 hl hT
  | some j => exact step_ut hb hs hq hN1 hN2 hl hT
 | f c k o =>
  cases o with
  | none => exact step_fn hb hs hq hN1 hN2 hl hT
  | some j => exact step_ft hb hs hq hN1 hN2 hl hT
 | nx c k => exact step_nx hb hs hq hN1 hN2 hl hT
 | done c k j => rw [hl] at hd; cases hd
end
end Go.Proofs.YtgaghaggiblabaaGreatDoor.Ev.T
namespace Go.Proofs.YtgaghaggiblabaaGreatDoor.Ev.T
open Go Go.RowKit
open Mach (S up nxt)
def fc (k : Nat) : Nat := match k with | 1 => 54 | 8 => 28 | 9 => 71 | 10 => 38 | 11 => 73 | 14 => 75 | _ => 0
noncomputable def cmp (b k : Nat) : AV := .ob (b + k) (fc k)
noncomputable def shP (b : Nat) (num d res : AV) : AV := .agg 76 [num, cmp b 1, cmp b 2, d, cmp b 4, cmp b 5, cmp b 6, res, cmp b 8, cmp b 9, cmp b 10, cmp b 11, cmp b 12, cmp b 13, cmp b 14, cmp b 15, cmp b 16, cmp b 17]
noncomputable def wP (setup arena : AV) (tasks : List AV) (log steps hs : AV) : AV := .agg 44 [setup, arena, .sv tasks false, log, steps, hs]
def bools : Nat -> List (List Bool)
 | 0 => [[]]
 | n + 1 => (bools n).map (false :: ·) ++ (bools n).map (true :: ·)
def dnB (n : Nat) (dl : List Bool) (j : Nat) : Bool := Nat.blt j n || dl.getD (j - n) true
def openL (n : Nat) (dl : List Bool) : List Nat := (List.range (n + dl.length)).filter fun j => !dnB n dl j
noncomputable def openA (n : Nat) (dl : List Bool) : AV := sln ((openL n dl).map fun (j : Nat) => i j)
noncomputable def wO (n : Nat) (dl : List Bool) : AV := wP (.ob 62 28) (.ob 60 40) ((List.range (n + dl.length)).map fun j => let b := 1000 + 100 * j; shP b (cmp b 0) (.bool (dnB n dl j)) (cmp b 7)) (.ob 65 0) (.ob 66 0) (.ob 67 0)
noncomputable def cOpen (n : Nat) (dl : List Bool) : Bool := rn [] 12 [wO n dl] (openA n dl)
noncomputable def wS (live m : Nat) : AV := wP (setupA live) (.agg 39 [.sv [.ob 0 134, .ob 1 134, .ob 2 134] false, .sv [.ob 3 136, .ob 4 136, .ob 5 136] false, .ob 6 35, .ob 7 38, .ob 66 0, .ob 68 0, .ob 8 0]) ((List.range m).map fun j => let b := 1000 + 100 * j; shP b (i (j + 1 : Nat)) (cmp b 3) (cmp b 7)) (.ob 65 0) (.ob 69 0) (.ob 67 0)
noncomputable def cSane (live m : Nat) : Bool := rn [] 7 [wS live m, setupA live] (.bool true)
noncomputable def tksP (n r idx : Nat) (t : AV) : List AV := ((List.range (n + r)).map fun j => .ob (100 + j) 77).set idx t
noncomputable def logP (l : Nat) : List AV := (List.range l).map fun j => .ob (200 + j) 99
noncomputable def hsP (l : Nat) : List AV := (List.range l).map fun j => .ob (300 + j) 0
noncomputable def wK (n idx : Nat) (arena t : AV) (log : List AV) (steps hs : AV) : AV := wP (.ob 62 28) arena (tksP n n idx t) (.sv log false) steps hs
noncomputable def oldT : AV := shP 500 (cmp 500 0) (.bool false) .sn
noncomputable def newT (d : Bool) (res : AV) : AV := shP 600 (cmp 600 0) (.bool d) res
noncomputable def resP : AV := .agg 78 [.ob 70 0, .ob 71 0, .sv [.ob 64 0] false, .ob 72 0, .ob 73 0, .ob 74 0, .ob 75 0]
noncomputable def pk (n idx k l : Nat) (dl : List Bool) (hs hs' d : AV) (t' : AV) (ev : AV) (log' : List AV) : Bool :=
 let w := wK n idx (.ob 60 40) oldT (logP l) (.cn 100) hs
 rn [⟨12, [w], openA n dl⟩, ⟨22, [.ob 60 40, oldT, .cn 101], .tup [.ob 61 40, t', ev, i 0]⟩] 13 [w, i k] (.tup [wK n idx (.ob 61 40) t' log' (.cn 101) hs', i 0])
noncomputable def cPl (n idx k l : Nat) (dl : List Bool) : Bool := pk n idx k l dl (.ob 67 0) (.ob 67 0) .sn (newT false .sn) .sn (logP l)
noncomputable def cPe (n idx k l : Nat) (dl : List Bool) : Bool := pk n idx k l dl (.ob 67 0) (.ob 67 0) .sn (newT false .sn) (.sv [.ob 63 99] false) (logP l ++ [.ob 63 99])
noncomputable def cPr (n idx k l g : Nat) (dl : List Bool) : Bool := pk n idx k l dl (sln (hsP g)) (sln (hsP g ++ [.ob 64 0])) .sn (newT true (.sv [resP] false)) .sn (logP l)
noncomputable def cPick (n : Nat) (dl : List Bool) : Bool := (List.range (openL n dl).length).all fun k => let idx := (openL n dl).getD k 0
 (List.range (n + 1)).all fun g => and' (cPl n idx k (n + g) dl) (and' (cPe n idx k (n + g) dl) (cPr n idx k (n + g) ((dl.filter fun b => b).length) dl))
noncomputable def cIndex (n : Nat) (dl : List Bool) : Bool := (List.range (openL n dl).length).all fun k => rn [] 20 [openA n dl, i ((openL n dl).getD k 0)] (i k)
noncomputable def allOpen (n : Nat) : Bool := (List.range (n + 1)).all fun r => (bools r).all fun dl => cOpen n dl
noncomputable def allPick (n : Nat) : Bool := (bools n).all fun dl => cPick n dl
noncomputable def allIndex (n : Nat) : Bool := (bools n).all fun dl => cIndex n dl
end Go.Proofs.YtgaghaggiblabaaGreatDoor.Ev.T
