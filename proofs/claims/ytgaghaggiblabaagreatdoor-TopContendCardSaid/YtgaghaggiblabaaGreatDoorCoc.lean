/- Shards, stripes, tasks and arenas as values. No condition. -/
import Derived.Test.YtgaghaggiblabaaGreatDoorCob
import Derived.Test.YtgaghaggiblabaaGreatDoorMac
set_option linter.all false
namespace Go.Proofs.YtgaghaggiblabaaGreatDoor.Ev.T
open Go Go.RowKit
structure Ok1 (a : AV) (t : Nat) : Prop where
 nrf : nrf a = true
 ntg : ntg a = true
 top : a ≠ .top
 tup : ∀ l, a ≠ .tup l
 lc : lc a = t
def cd (k : Nat) : Nat := match k with
 | 0 => 134 | 1 => 134 | 2 => 134 | 3 => 136 | 4 => 136 | 5 => 136 | 6 => 35 | 7 => 38 | 20 => 38 | 21 => 73 | 24 => 75 | 30 => 71 | 31 => 38 | 32 => 33 | 33 => 38 | 34 => 69
 | 36 => 63 | 38 => 125 | 40 => 136 | 43 => 33 | 45 => 125 | 50 => 125 | 51 => 125 | 52 => 125
 | 60 => 40 | 61 => 40 | 62 => 28 | 63 => 99 | k => if k < 100 then 0 else if k < 200 then 77 else if k < 300 then 99 else if k < 500 then 0 else match k % 100 with
  | 1 => 54 | 8 => 28 | 9 => 71 | 10 => 38 | 11 => 73 | 14 => 75 | _ => 0
def GT (X : Nat -> AV) : Prop := ∀ k, Ok1 (X k) (cd k)
theorem GT.gxn {X : Nat -> AV} (h : GT X) : GXn X := ⟨fun k => (h k).nrf, fun k => (h k).ntg, fun k => (h k).top, fun k => (h k).tup⟩
mutual
def otk : AV -> Bool
 | .pv a => otk a
 | .sv l _ => otkL l
 | .agg _ l => otkL l
 | .tup l => otkL l
 | .fn _ fi ca => otkL fi && otkL ca
 | .ob k t => Nat.beq (cd k) t
 | _ => true
def otkL : List AV -> Bool
 | [] => true
 | a :: l => otk a && otkL l
end
mutual
theorem okt_of {X : Nat -> AV} (hX : GT X) : ∀ a : AV, otk a = true -> okt X a
 | .pv a, h => by rw [okt]; exact okt_of hX a (by rwa [otk] at h)
 | .sv l f, h => by rw [okt]; exact oktL_of hX l (by rwa [otk] at h)
 | .agg t l, h => by rw [okt]; exact oktL_of hX l (by rwa [otk] at h)
 | .tup l, h => by rw [okt]; exact oktL_of hX l (by rwa [otk] at h)
 | .fn f fi ca, h => by
  rw [otk, Bool.and_eq_true] at h
  rw [okt]; exact ⟨oktL_of hX fi h.1, oktL_of hX ca h.2⟩
 | .ob k t, h => by rw [otk] at h; rw [okt, (hX k).lc]; exact Nat.eq_of_beq_eq_true h
 | .cn _, _ => by rw [okt] <;> first | trivial | (intros; contradiction)
 | .int .., _ => by rw [okt] <;> first | trivial | (intros; contradiction)
 | .bool _, _ => by rw [okt] <;> first | trivial | (intros; contradiction)
 | .str _, _ => by rw [okt] <;> first | trivial | (intros; contradiction)
 | .nilp, _ => by rw [okt] <;> first | trivial | (intros; contradiction)
 | .ptr .., _ => by rw [okt] <;> first | trivial | (intros; contradiction)
 | .sn, _ => by rw [okt] <;> first | trivial | (intros; contradiction)
 | .se, _ => by rw [okt] <;> first | trivial | (intros; contradiction)
 | .sr .., _ => by rw [okt] <;> first | trivial | (intros; contradiction)
 | .nilf, _ => by rw [okt] <;> first | trivial | (intros; contradiction)
 | .mp _, _ => by rw [okt] <;> first | trivial | (intros; contradiction)
 | .nilm, _ => by rw [okt] <;> first | trivial | (intros; contradiction)
 | .top, _ => by rw [okt] <;> first | trivial | (intros; contradiction)
theorem oktL_of {X : Nat -> AV} (hX : GT X) : ∀ l : List AV, otkL l = true -> oktL X l
 | [], _ => by rw [oktL]; trivial
 | a :: l, h => by
  rw [otkL, Bool.and_eq_true] at h
  rw [oktL]; exact ⟨okt_of hX a h.1, oktL_of hX l h.2⟩
end
mutual
def tgr : AV -> Bool
 | .pv a => tgr a
 | .sv l _ => tgrL l
 | .agg _ l => tgrL l
 | .tup l => tgrL l
 | .fn _ fi ca => tgrL fi && tgrL ca
 | .ob k _ => Nat.ble 10 k && Nat.blt k 50
 | .cn k => Nat.beq k 1
 | _ => true
def tgrL : List AV -> Bool
 | [] => true
 | a :: l => tgr a && tgrL l
end
section
variable {X Y : Nat -> AV} {C D : Nat -> Int}
mutual
theorem inst_cg (h1 : ∀ k, 10 <= k -> k < 50 -> X k = Y k) (h2 : C 1 = D 1) : ∀ a : AV, tgr a = true -> inst X C a = inst Y D a
 | .pv a, h => by rw [inst, inst, inst_cg h1 h2 a (by rwa [tgr] at h)]
 | .sv l f, h => by rw [inst, inst, instL_cg h1 h2 l (by rwa [tgr] at h)]
 | .agg t l, h => by rw [inst, inst, instL_cg h1 h2 l (by rwa [tgr] at h)]
 | .tup l, h => by rw [inst, inst, instL_cg h1 h2 l (by rwa [tgr] at h)]
 | .fn f fi ca, h => by
  rw [tgr, Bool.and_eq_true] at h
  rw [inst, inst, instL_cg h1 h2 fi h.1, instL_cg h1 h2 ca h.2]
 | .ob k t, h => by
  rw [tgr, Bool.and_eq_true] at h
  rw [inst, inst]
  refine h1 k (Nat.le_of_ble_eq_true h.1) ?_
  have := h.2
  simp [Nat.blt] at this
  omega
 | .cn k, h => by
  rw [tgr] at h
  rw [Nat.eq_of_beq_eq_true h, inst, inst, h2]
 | .int .., _ => by rw [inst, inst] <;> (intros; contradiction)
 | .bool _, _ => by rw [inst, inst] <;> (intros; contradiction)
 | .str _, _ => by rw [inst, inst] <;> (intros; contradiction)
 | .nilp, _ => by rw [inst, inst] <;> (intros; contradiction)
 | .ptr .., _ => by rw [inst, inst] <;> (intros; contradiction)
 | .sn, _ => by rw [inst, inst] <;> (intros; contradiction)
 | .se, _ => by rw [inst, inst] <;> (intros; contradiction)
 | .sr .., _ => by rw [inst, inst] <;> (intros; contradiction)
 | .nilf, _ => by rw [inst, inst] <;> (intros; contradiction)
 | .mp _, _ => by rw [inst, inst] <;> (intros; contradiction)
 | .nilm, _ => by rw [inst, inst] <;> (intros; contradiction)
 | .top, _ => by rw [inst, inst] <;> (intros; contradiction)
theorem instL_cg (h1 : ∀ k, 10 <= k -> k < 50 -> X k = Y k) (h2 : C 1 = D 1) : ∀ l : List AV, tgrL l = true -> instL X C l = instL Y D l
 | [], _ => by rw [instL, instL]
 | a :: l, h => by
  rw [tgrL, Bool.and_eq_true] at h
  rw [instL, instL, inst_cg h1 h2 a h.1, instL_cg h1 h2 l h.2]
end
end
mutual
theorem inst_nrf {X : Nat -> AV} {C : Nat -> Int} (hX : ∀ k, nrf (X k) = true) : ∀ a : AV, nrf a = true -> nrf (inst X C a) = true
 | .pv a, h => by rw [inst, nrf] <;> (intros; contradiction)
 | .sv l f, h => by rw [inst, nrf] <;> (intros; contradiction)
 | .agg t l, h => by rw [inst, nrf]; exact instL_nrf hX l (by rwa [nrf] at h)
 | .tup l, h => by rw [inst, nrf]; exact instL_nrf hX l (by rwa [nrf] at h)
 | .fn f fi ca, h => by
  rw [nrf] at h
  have h := and'_ok h
  rw [inst, nrf, instL_nrf hX fi h.1, instL_nrf hX ca h.2]; rfl
 | .ob k t, h => by rw [inst]; exact hX k
 | .cn _, _ => by rw [inst, nrf] <;> (intros; contradiction)
 | .int .., _ => by rw [inst, nrf] <;> (intros; contradiction)
 | .bool _, _ => by rw [inst, nrf] <;> (intros; contradiction)
 | .str _, _ => by rw [inst, nrf] <;> (intros; contradiction)
 | .nilp, _ => by rw [inst, nrf] <;> (intros; contradiction)
 | .ptr .., h => by rw [nrf] at h; cases h
 | .sn, _ => by rw [inst, nrf] <;> (intros; contradiction)
 | .se, _ => by rw [inst, nrf] <;> (intros; contradiction)
 | .sr .., h => by rw [nrf] at h; cases h
 | .nilf, _ => by rw [inst, nrf] <;> (intros; contradiction)
 | .mp _, h => by rw [nrf] at h; cases h
 | .nilm, _ => by rw [inst, nrf] <;> (intros; contradiction)
 | .top, _ => by rw [inst, nrf] <;> (intros; contradiction)
theorem instL_nrf {X : Nat -> AV} {C : Nat -> Int} (hX : ∀ k, nrf (X k) = true) : ∀ l : List AV, nrfL l = true -> nrfL (instL X C l) = true
 | [], _ => by rw [instL, nrfL]
 | a :: l, h => by
  rw [nrfL] at h
  have h := and'_ok h
  rw [instL, nrfL, inst_nrf hX a h.1, instL_nrf hX l h.2]; rfl
end
end Go.Proofs.YtgaghaggiblabaaGreatDoor.Ev.T
namespace Go.Proofs.YtgaghaggiblabaaGreatDoor.Ev.T
open Go Go.RowKit
open Mach (S up nxt)
theorem ntgL_all : ∀ {l : List AV}, (∀ a, a ∈ l -> ntg a = true) -> ntgL l = true
 | [], _ => by rw [ntgL]
 | a :: l, h => by rw [ntgL, h a List.mem_cons_self, ntgL_all (fun b hb => h b (List.mem_cons_of_mem _ hb))]; rfl
theorem nrfL_all : ∀ {l : List AV}, (∀ a, a ∈ l -> nrf a = true) -> nrfL l = true
 | [], _ => by rw [nrfL]
 | a :: l, h => by rw [nrfL, h a List.mem_cons_self, nrfL_all (fun b hb => h b (List.mem_cons_of_mem _ hb))]; rfl
theorem ntg_agg {t : Nat} {l : List AV} (h : ∀ a, a ∈ l -> ntg a = true) : ntg (.agg t l) = true := by rw [ntg]; exact ntgL_all h
theorem nrf_agg {t : Nat} {l : List AV} (h : ∀ a, a ∈ l -> nrf a = true) : nrf (.agg t l) = true := by rw [nrf]; exact nrfL_all h
theorem ntg_sv {l : List AV} {f : Bool} (h : ∀ a, a ∈ l -> ntg a = true) : ntg (.sv l f) = true := by rw [ntg]; exact ntgL_all h
theorem nrf_sv {l : List AV} {f : Bool} : nrf (.sv l f) = true := by rw [nrf] <;> (intros; contradiction)
theorem ntg_sln {l : List AV} (h : ∀ a, a ∈ l -> ntg a = true) : ntg (sln l) = true := by
 cases l with
 | nil => rfl
 | cons a l => exact ntg_sv h
theorem nrf_sln {l : List AV} : nrf (sln l) = true := by
 cases l with
 | nil => rfl
 | cons a l => exact nrf_sv
structure Cl (a : AV) : Prop where
 nrf : nrf a = true
 ntg : ntg a = true
theorem Cl.agg {t : Nat} {l : List AV} (h : ∀ a, a ∈ l -> Cl a) : Cl (.agg t l) := ⟨nrf_agg fun a ha => (h a ha).nrf, ntg_agg fun a ha => (h a ha).ntg⟩
theorem Cl.sv {l : List AV} {f : Bool} (h : ∀ a, a ∈ l -> Cl a) : Cl (.sv l f) := ⟨nrf_sv, ntg_sv fun a ha => (h a ha).ntg⟩
theorem Cl.sln {l : List AV} (h : ∀ a, a ∈ l -> Cl a) : Cl (sln l) := ⟨nrf_sln, ntg_sln fun a ha => (h a ha).ntg⟩
theorem Cl.i {n : Int} : Cl (i n) := ⟨rfl, rfl⟩
theorem Cl.b {b : Bool} : Cl (.bool b) := ⟨rfl, rfl⟩
theorem Cl.sn : Cl .sn := ⟨rfl, rfl⟩
theorem Cl.str {s : List Nat} : Cl (.str s) := ⟨rfl, rfl⟩
theorem cl_nil : ∀ a, a ∈ ([] : List AV) -> Cl a := fun _ h => by cases h
theorem cl_cons {x : AV} {l : List AV} (h : Cl x) (hl : ∀ a, a ∈ l -> Cl a) : ∀ a, a ∈ x :: l -> Cl a := fun a ha => by
 rcases List.mem_cons.1 ha with rfl | ha
 ·exact h
 ·exact hl a ha
theorem cl_msg (id g k : Nat) : Cl (msg id g k) := .agg (cl_cons .i (cl_cons .i (cl_cons .i (cl_cons .i (cl_cons .i (cl_cons .i (cl_cons .str cl_nil)))))))
theorem cl_msg0 : Cl msg0 := .agg (cl_cons .i (cl_cons .i (cl_cons .i (cl_cons .i (cl_cons .i (cl_cons .i (cl_cons .str cl_nil)))))))
theorem cl_lease (id : Nat) : Cl (lease id) := .agg (cl_cons (cl_msg ..) (cl_cons .i cl_nil))
theorem cl_due (id : Nat) : Cl (due id) := .agg (cl_cons .i (cl_cons .i cl_nil))
theorem cl_map {α : Type} {f : α -> AV} (h : ∀ x, Cl (f x)) (l : List α) : ∀ a, a ∈ l.map f -> Cl a := fun a ha => by
 obtain ⟨x, _, rfl⟩ := List.mem_map.1 ha
 exact h x
theorem cl_app {l k : List AV} (h1 : ∀ a, a ∈ l -> Cl a) (h2 : ∀ a, a ∈ k -> Cl a) : ∀ a, a ∈ l ++ k -> Cl a := fun a ha => by
 rcases List.mem_append.1 ha with h | h
 ·exact h1 a h
 ·exact h2 a h
theorem cl_rep {x : AV} (h : Cl x) (n : Nat) : ∀ a, a ∈ List.replicate n x -> Cl a := fun a ha => by rw [List.eq_of_mem_replicate ha]; exact h
theorem cl_shard (live n c j : Nat) : Cl (shardA live n c j) :=
 .agg (cl_cons .b (cl_cons .i (cl_cons .i (cl_cons (.agg (cl_cons (.sv (cl_app (cl_map (fun _ => cl_msg ..) _) (cl_rep cl_msg0 _))) (cl_cons .i (cl_cons .i cl_nil))))
  (cl_cons (.agg (cl_cons (.sln (cl_map cl_lease _)) (cl_cons (.sln (cl_map cl_due _)) cl_nil))) cl_nil)))))
theorem cl_stripe (live n c v o : Nat) : Cl (stripeA live n c v o) := .agg (cl_cons .i (cl_cons .i (cl_cons .i (cl_cons .i cl_nil))))
theorem cl_walk (live c k : Nat) : Cl (walkA live c k) := .agg (cl_cons .i (cl_cons .i cl_nil))
theorem cl_dir (live : Nat) : Cl (dirA live) := .agg (cl_cons .i (cl_cons (.sv (cl_map (fun _ => .agg (cl_cons .i (cl_cons .i (cl_cons .i cl_nil)))) _)) (cl_cons (.sv (cl_cons .i (cl_cons .i (cl_cons .i cl_nil)))) cl_nil)))
theorem cl_dead : Cl deadA := .agg (cl_cons .i (cl_cons (.agg (cl_cons .i (cl_cons .sn cl_nil))) cl_nil))
theorem ok_agg {t : Nat} {l : List AV} (h : Cl (.agg t l)) : Ok1 (.agg t l) (t + 1) := ⟨h.nrf, h.ntg, fun e => (by cases e), fun _ e => (by cases e), rfl⟩
theorem ok_i {n : Int} : Ok1 (i n) 0 := ⟨rfl, rfl, fun e => (by cases e), fun _ e => (by cases e), rfl⟩
theorem Cl.of {a : AV} {t : Nat} (h : Ok1 a t) : Cl a := ⟨h.nrf, h.ntg⟩
def ownN (n : Nat) (s : S) (c : Nat) : Nat := if s.own c = 0 then 0 else n + s.own c
def cont (live n : Nat) (s : S) (c : Nat) : Nat := min (s.vis c + (if s.stg c = 2 then 1 else 0)) (mN live n c)
noncomputable def arW (live n : Nat) (o sh st : Nat -> AV) : AV := .agg 39 [.sv [.agg 133 [o 0, sh 0], .agg 133 [o 1, sh 1], .agg 133 [o 2, sh 2]] false, .sv [st 0, st 1, st 2] false, deadA, dirA live, i 0, i 0, i (n + 1 : Nat)]
noncomputable def oA (n : Nat) (s : S) (c : Nat) : AV := i (ownN n s c)
noncomputable def shA (live n : Nat) (s : S) (c : Nat) : AV := shardA live n c (cont live n s c)
noncomputable def strA (live n : Nat) (s : S) (c : Nat) : AV := stripeA live n c (s.vis c) (if s.stg c = 0 then 0 else 1)
noncomputable def arenaA (live n : Nat) (s : S) : AV := arW live n (oA n s) (shA live n s) (strA live n s)
noncomputable def XS' (live n : Nat) (o sh st : Nat -> AV) (X : Nat -> AV) (k : Nat) : AV := match k with
 | 0 => .agg 133 [o 0, sh 0] | 1 => .agg 133 [o 1, sh 1] | 2 => .agg 133 [o 2, sh 2] | 3 => st 0 | 4 => st 1 | 5 => st 2 | 6 => deadA | 7 => dirA live | 8 => i (n + 1 : Nat)
 | 50 => sh 0 | 51 => sh 1 | 52 => sh 2 | k => X k
theorem gt_xs {live n : Nat} {o sh st X : Nat -> AV} (ho : ∀ c, Cl (o c)) (hs : ∀ c, Ok1 (sh c) 125) (ht : ∀ c, Ok1 (st c) 136) (hX : GT X) : GT (XS' live n o sh st X) := by
 intro k
 unfold XS'
 split <;> first
  | exact ok_agg (.agg (cl_cons (ho _) (cl_cons (.of (hs _)) cl_nil)))
  | exact ht _
  | exact hs _
  | exact ok_agg cl_dead
  | exact ok_agg (cl_dir _)
  | exact ok_i
  | exact hX _
theorem xs_eq {live n : Nat} {o sh st X : Nat -> AV} : ∀ k, 10 <= k -> k < 50 -> XS' live n o sh st X k = X k := by
 intro k h1 h2
 unfold XS'
 split <;> first | omega | rfl
def CS (num o : Nat) (N : Int) (k : Nat) : Int := if k = 1 then num else if k = 2 then o else if k <= 99 then 1 else if k <= 1001 then N + (k - 100 : Nat) else 1
theorem hCS {num o : Nat} {N : Int} (h1 : 1 <= num) (h2 : num <= 99) (h3 : 1 <= o) (h4 : o <= 99) (h5 : 1 <= N) (h6 : N <= 100000000) : HC (CS num o N) := by
 intro k
 unfold CS
 refine ⟨?_, ?_, ?_, ?_⟩
 ·repeat' split
  all_goals omega
 ·repeat' split
  all_goals omega
 ·intro h; repeat' split
  all_goals omega
 ·intro h7 h8
  rw [if_neg (by omega), if_neg (by omega), if_neg (by omega), if_pos (by omega), if_neg (by omega), if_neg (by omega), if_neg (by omega), if_pos (by omega)]
  omega
end Go.Proofs.YtgaghaggiblabaaGreatDoor.Ev.T
namespace Go.Proofs.YtgaghaggiblabaaGreatDoor.Ev.T
open Go Go.RowKit
open Mach (S up nxt)
section
variable {live n : Nat} {o sh st X : Nat -> AV} {C : Nat -> Int}
theorem inst_agg (t : Nat) (l : List AV) : inst X C (.agg t l) = .agg t (instL X C l) := by rw [inst]
theorem instL_cons (a : AV) (l : List AV) : instL X C (a :: l) = inst X C a :: instL X C l := by rw [instL]
theorem instL_nil : instL X C [] = [] := by rw [instL]
theorem inst_sv (l : List AV) (f : Bool) : inst X C (.sv l f) = .sv (instL X C l) f := by rw [inst]
theorem inst_ob (k t : Nat) : inst X C (.ob k t) = X k := by rw [inst]
theorem inst_cn (k : Nat) : inst X C (.cn k) = i (C k) := by rw [inst]
theorem inst_i (m : Int) : inst X C (i m) = i m := inst_cl X C _ rfl
theorem inst_b (b : Bool) : inst X C (.bool b) = .bool b := inst_cl X C _ rfl
theorem inst_sn : inst X C .sn = .sn := inst_cl X C _ rfl
theorem inst_tup (l : List AV) : inst X C (.tup l) = .tup (instL X C l) := by rw [inst]
theorem inst_c {a : AV} (h : Cl a) : inst X C a = a := inst_cl X C _ h.ntg
theorem inst_ar0 : inst (XS' live n o sh st X) C ar0 = arW live n o sh st := by
 simp only [ar0, arP, inst_agg, inst_sv, inst_ob, inst_i, instL_cons, instL_nil]; rfl
theorem inst_arD : inst (XS' live n o sh st X) C (arD live) = arW live n o sh st := by
 simp only [arD, st0, arP, inst_agg, inst_sv, inst_ob, inst_i, instL_cons, instL_nil, inst_c (cl_dir live)]; rfl
theorem inst_arS {c : Nat} (hc : c < 3) (p q r : AV) : inst (XS' live n o sh st X) C (arS c p q r) = arW live n (up o c (inst (XS' live n o sh st X) C p)) (up sh c (inst (XS' live n o sh st X) C q)) (up st c (inst (XS' live n o sh st X) C r)) := by
 match c, hc with
 | 0, _ => simp only [arS, slP, stP, arP, List.set, inst_agg, inst_sv, inst_ob, inst_i, instL_cons, instL_nil]; rfl
 | 1, _ => simp only [arS, slP, stP, arP, List.set, inst_agg, inst_sv, inst_ob, inst_i, instL_cons, instL_nil]; rfl
 | 2, _ => simp only [arS, slP, stP, arP, List.set, inst_agg, inst_sv, inst_ob, inst_i, instL_cons, instL_nil]; rfl
theorem inst_arO {c : Nat} (hc : c < 3) (p q : AV) : inst (XS' live n o sh st X) C (arO c p q) = arW live n (up o c (inst (XS' live n o sh st X) C p)) (up sh c (inst (XS' live n o sh st X) C q)) st := by
 match c, hc with
 | 0, _ => simp only [arO, slP, st0, arP, List.set, inst_agg, inst_sv, inst_ob, inst_i, instL_cons, instL_nil]; rfl
 | 1, _ => simp only [arO, slP, st0, arP, List.set, inst_agg, inst_sv, inst_ob, inst_i, instL_cons, instL_nil]; rfl
 | 2, _ => simp only [arO, slP, st0, arP, List.set, inst_agg, inst_sv, inst_ob, inst_i, instL_cons, instL_nil]; rfl
theorem arW_congr {o' sh' st' : Nat -> AV} (h1 : ∀ c, c < 3 -> o c = o' c) (h2 : ∀ c, c < 3 -> sh c = sh' c) (h3 : ∀ c, c < 3 -> st c = st' c) : arW live n o sh st = arW live n o' sh' st' := by
 unfold arW
 rw [h1 0 (by omega), h1 1 (by omega), h1 2 (by omega), h2 0 (by omega), h2 1 (by omega), h2 2 (by omega), h3 0 (by omega), h3 1 (by omega), h3 2 (by omega)]
theorem inst_sh {c : Nat} (hc : c < 3) : inst (XS' live n o sh st X) C (shT c) = sh c := by
 unfold shT
 rw [inst_ob]
 match c, hc with
 | 0, _ => rfl
 | 1, _ => rfl
 | 2, _ => rfl
theorem inst_st {c : Nat} (hc : c < 3) : inst (XS' live n o sh st X) C (.ob (3 + c) 136) = st c := by
 rw [inst_ob]
 match c, hc with
 | 0, _ => rfl
 | 1, _ => rfl
 | 2, _ => rfl
end
noncomputable def patT (live n : Nat) : Mach.Loc -> AV
 | .start h => tkStart (i h)
 | .lk c _ => tkL c | .m0 c _ => tkM0 c | .m1 c _ => tkM1 c stT | .ld c _ => tkLd c stT
 | .s0 c _ => tkS 0 c (.ob 39 0) stT (.ob 38 125) ow | .s1 c _ => tkS 1 c (.ob 39 0) stT (.ob 38 125) ow | .s2 c _ => tkS 2 c (.ob 39 0) stT (.ob 38 125) ow
 | .st c _ _ => tkSt c stT (.ob 38 125) (.ob 45 125) (.ob 43 33) ow
 | .u c _ (some _) => tkU c stT (.ob 38 125) (outT (.ob 45 125) (.ob 43 33)) cy | .u c _ none => tkU c stT (.ob 38 125) (out0' (.ob 45 125)) cy
 | .f c _ (some _) => tkF c stT (.ob 38 125) (outT (.ob 45 125) (.ob 43 33)) ow | .f c _ none => tkF c stT (.ob 38 125) (out0' (.ob 45 125)) ow
 | .nx _ _ => tkNx (.ob 30 71) ow (.ob 22 0)
 | .done c _ j => tkD cn1 (.ob 39 0) (idN live n c j) c
def cond (live n : Nat) (vis : Nat -> Nat) (X : Nat -> AV) : Mach.Loc -> Prop
 | .start _ => True
 | .lk c k => X 21 = walkA live c k | .m0 c k => X 21 = walkA live c k
 | .m1 c k => X 21 = walkA live c k /\ X 40 = stripeA live n c (vis c) 0
 | .ld c k => X 21 = walkA live c k /\ X 40 = stripeA live n c (vis c) 1
 | .s0 c k => X 21 = walkA live c k /\ X 40 = stripeA live n c (vis c) 1 /\ X 38 = shardA live n c (min (vis c) (mN live n c))
 | .s1 c k => X 21 = walkA live c k /\ X 40 = stripeA live n c (vis c) 1 /\ X 38 = shardA live n c (min (vis c) (mN live n c))
 | .s2 c k => X 21 = walkA live c k /\ X 40 = stripeA live n c (vis c) 1 /\ X 38 = shardA live n c (min (vis c) (mN live n c))
 | .st c k j => X 21 = walkA live (nxt live c) (k + 1) /\ X 40 = stripeA live n c (vis c) 1 /\ X 38 = shardA live n c j /\ X 45 = shardA live n c (j + 1)
 | .u c k (some j) => X 21 = walkA live (nxt live c) (k + 1) /\ X 40 = stripeA live n c (vis c) 1 /\ X 38 = shardA live n c j /\ X 45 = shardA live n c (j + 1)
 | .u c k none => X 21 = walkA live (nxt live c) (k + 1) /\ X 40 = stripeA live n c (vis c) 1 /\ X 38 = shardA live n c (mN live n c)
 | .f c _ (some j) => X 38 = shardA live n c j
 | .f c k none => X 21 = walkA live (nxt live c) (k + 1)
 | .nx c k => X 21 = walkA live c k
 | .done .. => True
def TaskRep (live n : Nat) (vis : Nat -> Nat) (num : Nat) (l : Mach.Loc) (T : AV) : Prop := ∃ X C, GT X /\ C 1 = (num : Int) /\ cond live n vis X l /\ T = inst X C (patT live n l)
end Go.Proofs.YtgaghaggiblabaaGreatDoor.Ev.T
