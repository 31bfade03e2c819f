/- Every pick is a step of the abstract machine. No condition. -/
import Derived.Test.YtgaghaggiblabaaGreatDoorCoe
import Derived.Test.YtgaghaggiblabaaGreatDoorCob
import Derived.Test.YtgaghaggiblabaaGreatDoorCof
import Derived.Test.YtgaghaggiblabaaGreatDoorPia
import Derived.Test.YtgaghaggiblabaaGreatDoorPib
import Derived.Test.YtgaghaggiblabaaGreatDoorPic
import Derived.Test.YtgaghaggiblabaaGreatDoorPid
import Derived.Test.YtgaghaggiblabaaGreatDoorPif
set_option linter.all false
namespace Go.Proofs.YtgaghaggiblabaaGreatDoor.Ev.T
open Go Go.RowKit
open Mach (S up nxt)
def TShape (num : Nat) (d : Bool) (res T : AV) : Prop := ∃ f : Nat -> AV, (∀ k, Ok1 (f k) (fc k)) /\ f 0 = i num /\ T = tkF' f d res
theorem okA {X : Nat -> AV} {C : Nat -> Int} (hX : GT X) {t : Nat} {l : List AV} {c : Nat} (h : nrf (.agg t l) = true) (e : t + 1 = c) : Ok1 (inst X C (.agg t l)) c := e ▸ ok_inst hX h
theorem okX {X : Nat -> AV} {C : Nat -> Int} (hX : GT X) {k t c : Nat} (e : cd k = c) : Ok1 (inst X C (.ob k t)) c := by rw [inst_ob]; exact e ▸ hX k
theorem okI {X : Nat -> AV} {C : Nat -> Int} {m : Int} : Ok1 (inst X C (i m)) 0 := by rw [inst_i]; exact ok_i
def TOpen (num : Nat) (T : AV) : Prop := ∃ f : Nat -> AV, (∀ k, Ok1 (f k) (fc k)) /\ f 0 = i num /\ f 6 = i 0 /\ f 1 = .agg 53 [i 2, f 81, i 1, i 50, f 82, f 83, f 84, f 85] /\ T = tkF' f false .sn
theorem TOpen.shape {num : Nat} {T : AV} (h : TOpen num T) : TShape num false .sn T := by
 obtain ⟨f, h1, h2, _, _, h3⟩ := h
 exact ⟨f, h1, h2, h3⟩
theorem ok_up {f : Nat -> AV} (h : ∀ k, Ok1 (f k) (fc k)) {j : Nat} {v : AV} (hv : Ok1 v (fc j)) (k : Nat) : Ok1 (up f j v k) (fc k) := by
 unfold up
 split
 ·rename_i e; rw [e]; exact hv
 ·exact h k
theorem shape_tkP {X : Nat -> AV} {C : Nat -> Int} (hX : GT X) {num : Nat} (hC : C 1 = (num : Int)) {h sec dir w sl : AV} {pc : Int} (h0 : Ok1 (inst X C h) 0) (h1 : nrf (invP h) = true) (h2 : Ok1 (inst X C sec) 71) (h3 : Ok1 (inst X C dir) 38) (h4 : Ok1 (inst X C w) 73) (h5 : Ok1 (inst X C sl) 0) : TOpen num (inst X C (tkP h pc sec dir w sl)) := by
 have key : ∀ k : Nat, Ok1 ((fun k : Nat => match k with | 0 => i num | 1 => inst X C (invP h) | 2 => X 10 | 4 => X 16 | 5 => i pc | 6 => i 0 | 8 => inst X C stpP | 9 => inst X C sec | 10 => inst X C dir | 11 => inst X C w | 12 => inst X C sl | 13 => X 23 | 14 => X 24 | 15 => X 25 | 16 => X 26 | 17 => X 27 | _ => i 0) k) (fc k) := by
  intro k
  match k with
  | 0 => exact ok_i
  | 1 => exact okA hX h1 rfl
  | 2 => exact hX 10
  | 3 => exact ok_i
  | 4 => exact hX 16
  | 5 => exact ok_i
  | 6 => exact ok_i
  | 7 => exact ok_i
  | 8 => exact okA hX rfl rfl
  | 9 => exact h2
  | 10 => exact h3
  | 11 => exact h4
  | 12 => exact h5
  | 13 => exact hX 23
  | 14 => exact hX 24
  | 15 => exact hX 25
  | 16 => exact hX 26
  | 17 => exact hX 27
  | k + 18 => exact ok_i
 refine ⟨_, ok_up (ok_up (ok_up (ok_up (ok_up key (j := 81) (v := inst X C h) h0) (j := 82) (v := X 12) (hX 12)) (j := 83) (v := X 13) (hX 13)) (j := 84) (v := X 14) (hX 14)) (j := 85) (v := X 15) (hX 15), rfl, rfl, ?_, ?_⟩
 ·show inst X C (invP h) = .agg 53 [i 2, inst X C h, i 1, i 50, X 12, X 13, X 14, X 15]
  unfold invP
  simp only [inst_agg, instL_cons, instL_nil, inst_ob, inst_i]
 ·unfold tkP
  simp only [inst_agg, instL_cons, instL_nil, inst_ob, inst_cn, inst_i, inst_b, inst_sn, hC]
  rfl
theorem shape_open {live n num : Nat} {vis : Nat -> Nat} {l : Mach.Loc} {T : AV} (h : TaskRep live n vis num l T) (hd : Mach.isDone l = false) : TOpen num T := by
 obtain ⟨X, C, hX, hC, _, rfl⟩ := h
 cases l with
 | start h => exact shape_tkP hX hC okI rfl (okX hX rfl) (okX hX rfl) (okX hX rfl) (okX hX rfl)
 | nx c k => exact shape_tkP hX hC (okX hX rfl) rfl (okX hX rfl) (okX hX rfl) (okX hX rfl) (okX hX rfl)
 | done c k j => cases hd
 | u c k o => cases o <;> exact shape_tkP hX hC (okX hX rfl) rfl (okA hX rfl rfl) (okX hX rfl) (okX hX rfl) okI
 | f c k o => cases o <;> exact shape_tkP hX hC (okX hX rfl) rfl (okA hX rfl rfl) (okX hX rfl) (okX hX rfl) okI
 | _ => exact shape_tkP hX hC (okX hX rfl) rfl (okA hX rfl rfl) (okX hX rfl) (okX hX rfl) okI
theorem cl_resA (id c : Nat) : Cl (resA id c) := .agg (cl_cons .i (cl_cons .i (cl_cons (.sv (cl_cons (.sv (cl_map (fun _ => ⟨rfl, rfl⟩) _)) cl_nil)) (cl_cons (.sv (cl_cons .str cl_nil)) (cl_cons .i (cl_cons .i (cl_cons .i cl_nil)))))))
theorem shape_done {live n num : Nat} {vis : Nat -> Nat} {c k j : Nat} {T : AV} (h : TaskRep live n vis num (.done c k j) T) : TShape num true (.sv [resA (idN live n c j) c] false) T := by
 obtain ⟨X, C, hX, hC, _, rfl⟩ := h
 refine ⟨fun k => match k with | 0 => i num | 1 => inst X C (invP oh) | 2 => X 10 | 4 => X 39 | 5 => i 0 | 6 => i 1 | 8 => inst X C stpP | 9 => inst X C secZ | 10 => inst X C y37 | 11 => inst X C (.agg 72 [i 0, i 0]) | 14 => inst X C (.agg 74 [i 0, i 0, i 0, i 0]) | 16 => .sn | 17 => .sn | _ => i 0, ?_, rfl, ?_⟩
 ·intro k
  have hsn : Ok1 .sn 0 := ⟨rfl, rfl, fun e => (by cases e), fun _ e => (by cases e), rfl⟩
  match k with
  | 0 => exact ok_i
  | 1 => exact okA hX rfl rfl
  | 2 => exact hX 10
  | 3 => exact ok_i
  | 4 => exact hX 39
  | 5 => exact ok_i
  | 6 => exact ok_i
  | 7 => exact ok_i
  | 8 => exact okA hX rfl rfl
  | 9 => exact okA hX rfl rfl
  | 10 => exact okA hX rfl rfl
  | 11 => exact okA hX rfl rfl
  | 12 => exact ok_i
  | 13 => exact ok_i
  | 14 => exact okA hX rfl rfl
  | 15 => exact ok_i
  | 16 => exact hsn
  | 17 => exact hsn
  | k + 18 => exact ok_i
 ·show inst X C (tkD cn1 (.ob 39 0) (idN live n c j) c) = _
  unfold tkD tkF' cn1
  simp only [inst_agg, instL_cons, instL_nil, inst_ob, inst_cn, inst_i, inst_b, inst_sn, inst_sv, inst_c (cl_resA _ _), hC]
end Go.Proofs.YtgaghaggiblabaaGreatDoor.Ev.T
namespace Go.Proofs.YtgaghaggiblabaaGreatDoor.Ev.T
open Go Go.RowKit
open Mach (S up nxt)
theorem all_mem {α : Type} {p : α -> Bool} {l : List α} (h : l.all p = true) {x : α} (hx : x ∈ l) : p x = true := List.all_eq_true.1 h x hx
theorem mem_bools : ∀ {n : Nat} {dl : List Bool}, dl.length = n -> dl ∈ bools n
 | 0, dl, h => by rw [List.length_eq_zero_iff.1 h]; exact List.mem_singleton.2 rfl
 | n + 1, [], h => by cases h
 | n + 1, b :: dl, h => by
  have := mem_bools (n := n) (dl := dl) (by simpa using h)
  show _ ∈ (bools n).map (false :: ·) ++ (bools n).map (true :: ·)
  rw [List.mem_append]
  cases b
  ·exact .inl (List.mem_map.2 ⟨dl, this, rfl⟩)
  ·exact .inr (List.mem_map.2 ⟨dl, this, rfl⟩)
theorem cPick_ok {n : Nat} (h1 : 1 <= n) (h6 : n <= 6) {dl : List Bool} (hd : dl.length = n) : cPick n dl = true := by
 match n, h1, h6, hd with
 | 1, _, _, hd => exact all_mem allPick_1 (mem_bools hd)
 | 2, _, _, hd => exact all_mem allPick_2 (mem_bools hd)
 | 3, _, _, hd => exact all_mem allPick_3 (mem_bools hd)
 | 4, _, _, hd => exact all_mem allPick_4 (mem_bools hd)
 | 5, _, _, hd =>
  match dl, hd with
  | a :: b :: dl, hd =>
   have hm : dl ∈ bools 3 := mem_bools (by simpa using hd)
   cases a <;> cases b
   ·exact all_mem allPick_5_ff hm
   ·exact all_mem allPick_5_ft hm
   ·exact all_mem allPick_5_tf hm
   ·exact all_mem allPick_5_tt hm
 | 6, _, _, hd =>
  match dl, hd with
  | a :: b :: c :: dl, hd =>
   have hm : dl ∈ bools 3 := mem_bools (by simpa using hd)
   cases a <;> cases b <;> cases c
   ·exact all_mem allPick_6_fff hm
   ·exact all_mem allPick_6_fft hm
   ·exact all_mem allPick_6_ftf hm
   ·exact all_mem allPick_6_ftt hm
   ·exact all_mem allPick_6_tff hm
   ·exact all_mem allPick_6_tft hm
   ·exact all_mem allPick_6_ttf hm
   ·exact all_mem allPick_6_ttt hm
theorem allOpen_n {n : Nat} (h1 : 1 <= n) (h6 : n <= 6) : allOpen n = true := by
 match n, h1, h6 with
 | 1, _, _ => exact allOpen_1
 | 2, _, _ => exact allOpen_2
 | 3, _, _ => exact allOpen_3
 | 4, _, _ => exact allOpen_4
 | 5, _, _ => exact allOpen_5
 | 6, _, _ => exact allOpen_6
theorem allIndex_n {n : Nat} (h1 : 1 <= n) (h6 : n <= 6) : allIndex n = true := by
 match n, h1, h6 with
 | 1, _, _ => exact allIndex_1
 | 2, _, _ => exact allIndex_2
 | 3, _, _ => exact allIndex_3
 | 4, _, _ => exact allIndex_4
 | 5, _, _ => exact allIndex_5
 | 6, _, _ => exact allIndex_6
theorem cOpen_ok {n : Nat} (h1 : 1 <= n) (h6 : n <= 6) {dl : List Bool} (hd : dl.length <= n) : cOpen n dl = true :=
 all_mem (all_r (allOpen_n h1 h6) (Nat.lt_succ_of_le hd)) (mem_bools rfl)
theorem cIndex_ok {n : Nat} (h1 : 1 <= n) (h6 : n <= 6) {dl : List Bool} (hd : dl.length = n) : cIndex n dl = true :=
 all_mem (allIndex_n h1 h6) (mem_bools hd)
theorem cSane_ok {live m : Nat} (h1 : 1 <= live) (h3 : live <= 3) (hm : m <= 12) : cSane live m = true := by
 have := all_r (all_r (n := 3) allSane_ok (show live - 1 < 3 by omega)) (show m < 13 by omega)
 rwa [show live - 1 + 1 = live by omega] at this
noncomputable def dfl (c : Nat) : AV := match c with | 0 => i 0 | t + 1 => .agg t []
theorem ok_dfl (c : Nat) : Ok1 (dfl c) c := by
 cases c with
 | zero => exact ok_i
 | succ t => exact ok_agg (.agg cl_nil)
theorem cd_ge {k : Nat} (h : 500 <= k) : cd k = fc (k % 100) := by
 unfold cd
 split <;> first
  | omega
  | (rw [if_neg (by omega), if_neg (by omega), if_neg (by omega), if_neg (by omega)]
     unfold fc
     split <;> simp_all)
noncomputable def XB (b : Nat -> AV) (F : Nat -> Nat -> AV) (k : Nat) : AV := if k < 1000 then b k else F ((k - 1000) / 100) (k % 100)
theorem gt_xb {b : Nat -> AV} {F : Nat -> Nat -> AV} (hb : ∀ k, k < 1000 -> Ok1 (b k) (cd k)) (hF : ∀ j k, Ok1 (F j k) (fc k)) : GT (XB b F) := by
 intro k
 unfold XB
 split
 ·rename_i h; exact hb k h
 ·rw [cd_ge (by omega)]; exact hF _ _
theorem xb_lo {b : Nat -> AV} {F : Nat -> Nat -> AV} {k : Nat} (h : k < 1000) : XB b F k = b k := if_pos h
theorem xb_hi {b : Nat -> AV} {F : Nat -> Nat -> AV} {j k : Nat} (h : k < 100) : XB b F (1000 + 100 * j + k) = F j k := by
 unfold XB
 rw [if_neg (by omega), show (1000 + 100 * j + k - 1000) / 100 = j by omega, show (1000 + 100 * j + k) % 100 = k by omega]
section
variable {X : Nat -> AV} {C : Nat -> Int}
theorem instL_map {α : Type} (f : α -> AV) : ∀ l : List α, instL X C (l.map f) = l.map fun x => inst X C (f x)
 | [] => instL_nil
 | a :: l => by rw [List.map_cons, instL_cons, instL_map f l, List.map_cons]
theorem instL_app : ∀ l m : List AV, instL X C (l ++ m) = instL X C l ++ instL X C m
 | [], m => by rw [instL_nil]; rfl
 | a :: l, m => by rw [List.cons_append, instL_cons, instL_app l m, instL_cons]; rfl
theorem instL_set : ∀ (l : List AV) (k : Nat) (v : AV), instL X C (l.set k v) = (instL X C l).set k (inst X C v)
 | [], _, _ => by rw [List.set_nil, instL_nil, List.set_nil]
 | a :: l, 0, v => by rw [List.set_cons_zero, instL_cons, instL_cons, List.set_cons_zero]
 | a :: l, k + 1, v => by rw [List.set_cons_succ, instL_cons, instL_cons, List.set_cons_succ, instL_set l k v]
theorem otkL_map {α : Type} {f : α -> AV} (h : ∀ x, otk (f x) = true) : ∀ l : List α, otkL (l.map f) = true
 | [] => rfl
 | a :: l => by rw [List.map_cons, otkL, h a, otkL_map h l]; rfl
theorem otkL_set : ∀ {l : List AV} {k : Nat} {v : AV}, otkL l = true -> otk v = true -> otkL (l.set k v) = true
 | [], _, _, _, _ => rfl
 | a :: l, 0, v, h, hv => by
  rw [otkL, Bool.and_eq_true] at h
  rw [List.set_cons_zero, otkL, hv, h.2]; rfl
 | a :: l, k + 1, v, h, hv => by
  rw [otkL, Bool.and_eq_true] at h
  rw [List.set_cons_succ, otkL, h.1, otkL_set h.2 hv]; rfl
theorem otk_ob {k t : Nat} (h : cd k = t) : otk (.ob k t) = true := by rw [otk, h]; exact Nat.beq_refl t
theorem otkL_cons {a : AV} {l : List AV} (h : otk a = true) (hl : otkL l = true) : otkL (a :: l) = true := by rw [otkL, h, hl]; rfl
theorem otk_agg {t : Nat} {l : List AV} (h : otkL l = true) : otk (.agg t l) = true := by rw [otk]; exact h
theorem otk_tup {l : List AV} (h : otkL l = true) : otk (.tup l) = true := by rw [otk]; exact h
theorem otk_sv {l : List AV} {f : Bool} (h : otkL l = true) : otk (.sv l f) = true := by rw [otk]; exact h
theorem otkL_nil : otkL [] = true := rfl
theorem otk_wP {s a lg t hs : AV} {l : List AV} (h1 : otk s = true) (h2 : otk a = true) (h3 : otkL l = true) (h4 : otk lg = true) (h5 : otk t = true) (h6 : otk hs = true) : otk (wP s a l lg t hs) = true :=
 otk_agg (otkL_cons h1 (otkL_cons h2 (otkL_cons (otk_sv h3) (otkL_cons h4 (otkL_cons h5 (otkL_cons h6 otkL_nil))))))
theorem otk_cmp {j k : Nat} (h : k < 100) : otk (cmp (1000 + 100 * j) k) = true := otk_ob (by rw [cd_ge (by omega), show (1000 + 100 * j + k) % 100 = k by omega])
theorem otk_cmp5 {k : Nat} (h : k < 18) : otk (cmp 500 k) = true := otk_ob (by rw [cd_ge (by omega), show (500 + k) % 100 = k by omega])
theorem otk_cmp6 {k : Nat} (h : k < 18) : otk (cmp 600 k) = true := otk_ob (by rw [cd_ge (by omega), show (600 + k) % 100 = k by omega])
theorem p60 : otk (.ob 60 40) = true := otk_ob rfl
theorem p62 : otk (.ob 62 28) = true := otk_ob rfl
theorem p65 : otk (.ob 65 0) = true := otk_ob rfl
theorem p66 : otk (.ob 66 0) = true := otk_ob rfl
theorem p67 : otk (.ob 67 0) = true := otk_ob rfl
theorem p69 : otk (.ob 69 0) = true := otk_ob rfl
theorem otk_shP {b : Nat} {num d res : AV} (h : ∀ k, k < 18 -> otk (cmp b k) = true) (h1 : otk num = true) (h2 : otk d = true) (h3 : otk res = true) : otk (shP b num d res) = true := by
 unfold shP
 simp only [otk, otkL, h1, h2, h3, h 1 (by omega), h 2 (by omega), h 4 (by omega), h 5 (by omega), h 6 (by omega), h 8 (by omega), h 9 (by omega), h 10 (by omega), h 11 (by omega), h 12 (by omega), h 13 (by omega), h 14 (by omega), h 15 (by omega), h 16 (by omega), h 17 (by omega), Bool.and_self]
theorem inst_shP' {b : Nat} {num res da : AV} {d : Bool} {f : Nat -> AV} (h : ∀ k, k < 18 -> k ≠ 0 -> k ≠ 7 -> X (b + k) = f k) (h0 : inst X C num = f 0) (hd : inst X C da = .bool d) : inst X C (shP b num da res) = tkF' f d (inst X C res) := by
 unfold shP tkF' cmp
 simp only [inst_agg, instL_cons, instL_nil, inst_ob, hd, h0]
 rw [h 1 (by omega) (by omega) (by omega), h 2 (by omega) (by omega) (by omega), h 4 (by omega) (by omega) (by omega), h 5 (by omega) (by omega) (by omega), h 6 (by omega) (by omega) (by omega), h 8 (by omega) (by omega) (by omega), h 9 (by omega) (by omega) (by omega), h 10 (by omega) (by omega) (by omega), h 11 (by omega) (by omega) (by omega), h 12 (by omega) (by omega) (by omega), h 13 (by omega) (by omega) (by omega), h 14 (by omega) (by omega) (by omega), h 15 (by omega) (by omega) (by omega), h 16 (by omega) (by omega) (by omega), h 17 (by omega) (by omega) (by omega)]
theorem inst_shP {b : Nat} {num res : AV} {d : Bool} {f : Nat -> AV} (h : ∀ k, k < 18 -> k ≠ 0 -> k ≠ 7 -> X (b + k) = f k) (h0 : inst X C num = f 0) : inst X C (shP b num (.bool d) res) = tkF' f d (inst X C res) := inst_shP' h h0 (inst_b d)
end
noncomputable def tksF (m : Nat) (F : Nat -> Nat -> AV) (d : Nat -> Bool) : List AV := (List.range m).map fun j => tkF' (F j) (d j) (F j 7)
noncomputable def wA (s a : AV) (ts : List AV) (lg t hs : AV) : AV := .agg 44 [s, a, .sv ts false, lg, t, hs]
noncomputable def bO (s a lg t hs : AV) (k : Nat) : AV := match k with | 60 => a | 62 => s | 65 => lg | 66 => t | 67 => hs | k => dfl (cd k)
section
variable {s a lg t hs : AV} {F : Nat -> Nat -> AV}
theorem gt_bO (h1 : Ok1 s 28) (h2 : Ok1 a 40) (h3 : Ok1 lg 0) (h4 : Ok1 t 0) (h5 : Ok1 hs 0) (hF : ∀ j k, Ok1 (F j k) (fc k)) : GT (XB (bO s a lg t hs) F) := gt_xb (fun k _ => by
 unfold bO
 split <;> first | exact h1 | exact h2 | exact h3 | exact h4 | exact h5 | exact ok_dfl _) hF
theorem inst_tks {b : Nat -> AV} {C : Nat -> Int} {m : Nat} {d : Nat -> Bool} : instL (XB b F) C ((List.range m).map fun j => shP (1000 + 100 * j) (cmp (1000 + 100 * j) 0) (.bool (d j)) (cmp (1000 + 100 * j) 7)) = tksF m F d := by
 rw [instL_map]
 refine List.map_congr_left fun j _ => ?_
 rw [inst_shP (f := F j) (fun k h _ _ => xb_hi (by omega)) (by unfold cmp; rw [inst_ob]; exact xb_hi (by omega))]
 unfold cmp
 rw [inst_ob, xb_hi (by omega)]
theorem otk_tks {m : Nat} {d : Nat -> Bool} : otkL ((List.range m).map fun j => shP (1000 + 100 * j) (cmp (1000 + 100 * j) 0) (.bool (d j)) (cmp (1000 + 100 * j) 7)) = true :=
 otkL_map (fun j => otk_shP (fun k h => otk_cmp (by omega)) (otk_cmp (by omega)) rfl (otk_cmp (by omega))) _
theorem cl_openA (n : Nat) (dl : List Bool) : Cl (openA n dl) := .sln (cl_map (fun _ => .i) _)
theorem pur_open {n : Nat} {dl : List Bool} (h : cOpen n dl = true) (h1 : Ok1 s 28) (h2 : Ok1 a 40) (h3 : Ok1 lg 0) (h4 : Ok1 t 0) (h5 : Ok1 hs 0) (hF : ∀ j k, Ok1 (F j k) (fc k)) :
  PurC 12 [wA s a (tksF (n + dl.length) F (dnB n dl)) lg t hs] (openA n dl) := by
 have hX := gt_bO h1 h2 h3 h4 h5 hF
 have := rn_put (X := XB (bO s a lg t hs) F) (C := C0) h hX.gxn hC0 .nil (oktL_of hX _ (by
  exact otkL_cons (otk_wP p62 p60 otk_tks p65 p66 p67) otkL_nil))
 rw [inst_c (cl_openA n dl), instL_cons, instL_nil] at this
 unfold wO wP at this
 rw [inst_agg, instL_cons, instL_cons, instL_cons, instL_cons, instL_cons, instL_cons, instL_nil, inst_sv, inst_tks, inst_ob, inst_ob, inst_ob, inst_ob, inst_ob, xb_lo (by omega), xb_lo (by omega), xb_lo (by omega), xb_lo (by omega), xb_lo (by omega)] at this
 exact this
end
section
variable {live n : Nat} {o sh st : Nat -> AV} {lg t hs : AV} {F : Nat -> Nat -> AV}
noncomputable def bS (live n : Nat) (o sh st : Nat -> AV) (lg t hs : AV) (k : Nat) : AV := match k with
 | 0 => .agg 133 [o 0, sh 0] | 1 => .agg 133 [o 1, sh 1] | 2 => .agg 133 [o 2, sh 2] | 3 => st 0 | 4 => st 1 | 5 => st 2 | 6 => deadA | 7 => dirA live | 8 => i (n + 1 : Nat)
 | 66 => i 0 | 68 => i 0 | 65 => lg | 67 => hs | 69 => t | k => dfl (cd k)
theorem gt_bS (ho : ∀ c, Cl (o c)) (hs' : ∀ c, Ok1 (sh c) 125) (ht : ∀ c, Ok1 (st c) 136) (h3 : Ok1 lg 0) (h4 : Ok1 t 0) (h5 : Ok1 hs 0) (hF : ∀ j k, Ok1 (F j k) (fc k)) : GT (XB (bS live n o sh st lg t hs) F) := gt_xb (fun k _ => by
 unfold bS
 split <;> first
  | exact ok_agg (.agg (cl_cons (ho _) (cl_cons (.of (hs' _)) cl_nil)))
  | exact ht _
  | exact ok_agg cl_dead
  | exact ok_agg (cl_dir _)
  | exact ok_i
  | exact h3 | exact h4 | exact h5 | exact ok_dfl _) hF
theorem cl_setup (live : Nat) : Cl (setupA live) := .agg (cl_cons .i (cl_cons .i (cl_cons .i (cl_cons .i (cl_cons .i (cl_cons .i (cl_cons .i (cl_cons .i cl_nil))))))))
theorem pur_sane {m : Nat} (h : cSane live m = true) (ho : ∀ c, Cl (o c)) (hs' : ∀ c, Ok1 (sh c) 125) (ht : ∀ c, Ok1 (st c) 136) (h3 : Ok1 lg 0) (h4 : Ok1 t 0) (h5 : Ok1 hs 0) (hF : ∀ j k, Ok1 (F j k) (fc k)) (h0 : ∀ j, j < m -> F j 0 = i (j + 1 : Nat)) {d : Nat -> Bool} (hd : ∀ j, j < m -> F j 3 = .bool (d j)) :
  PurC 7 [wA (setupA live) (arW live n o sh st) (tksF m F d) lg t hs, setupA live] (.bool true) := by
 have hX := gt_bS (live := live) (n := n) ho hs' ht h3 h4 h5 hF
 have hso := otk_cl _ (cl_setup live).ntg
 have := rn_put (X := XB (bS live n o sh st lg t hs) F) (C := C0) h hX.gxn hC0 .nil (oktL_of hX _ (by
  have ho : otkL ((List.range m).map fun j => let b := 1000 + 100 * j; shP b (i (j + 1 : Nat)) (cmp b 3) (cmp b 7)) = true :=
   otkL_map (fun j => otk_shP (fun k h => otk_cmp (by omega)) rfl (otk_cmp (by omega)) (otk_cmp (by omega))) _
  exact otkL_cons (otk_wP hso rfl ho p65 p69 p67) (otkL_cons hso otkL_nil)))
 rw [inst_b, instL_cons, instL_cons, instL_nil, inst_c (cl_setup live)] at this
 have e : inst (XB (bS live n o sh st lg t hs) F) C0 (wS live m) = wA (setupA live) (arW live n o sh st) (tksF m F d) lg t hs := by
  have e1 : instL (XB (bS live n o sh st lg t hs) F) C0 ((List.range m).map fun j => let b := 1000 + 100 * j; shP b (i (j + 1 : Nat)) (cmp b 3) (cmp b 7)) = tksF m F d := by
   rw [instL_map]
   refine List.map_congr_left fun j hj => ?_
   have hj := List.mem_range.1 hj
   show inst _ _ (shP (1000 + 100 * j) (i (j + 1 : Nat)) (cmp (1000 + 100 * j) 3) (cmp (1000 + 100 * j) 7)) = _
   rw [inst_shP' (f := F j) (d := d j) (fun k h _ _ => xb_hi (by omega)) (by rw [inst_i, h0 j hj]) (by unfold cmp; rw [inst_ob, xb_hi (by omega), hd j hj])]
   unfold cmp
   rw [inst_ob, xb_hi (by omega)]
  unfold wS wP wA
  simp only [inst_agg, instL_cons, instL_nil, inst_sv, inst_ob]
  rw [e1, inst_c (cl_setup live)]
  rfl
 rw [e] at this
 exact this
end
theorem pur_index {n : Nat} {dl : List Bool} (h : cIndex n dl = true) {k : Nat} (hk : k < (openL n dl).length) : PurC 20 [openA n dl, i ((openL n dl).getD k 0)] (i k) :=
 rn_cl (all_r h hk) .nil (by rw [ntgL, (cl_openA n dl).ntg, ntgL, ntgL]; rfl) rfl
end Go.Proofs.YtgaghaggiblabaaGreatDoor.Ev.T
namespace Go.Proofs.YtgaghaggiblabaaGreatDoor.Ev.T
open Go Go.RowKit
open Mach (S up nxt)
noncomputable def bK (s a a' e tok hs r2 : AV) (ts lg hl fo fn : Nat -> AV) (k : Nat) : AV :=
 if k < 100 then (match k with | 60 => a | 61 => a' | 62 => s | 63 => e | 64 => tok | 67 => hs | 72 => r2 | k => dfl (cd k))
 else if k < 200 then ts (k - 100) else if k < 300 then lg (k - 200) else if k < 500 then hl (k - 300) else if k < 600 then fo (k - 500) else if k < 700 then fn (k - 600) else dfl (cd k)
structure KOk (s a a' e tok hs r2 : AV) (ts lg hl fo fn : Nat -> AV) : Prop where
 s : Ok1 s 28
 a : Ok1 a 40
 a' : Ok1 a' 40
 e : Ok1 e 99
 tok : Ok1 tok 0
 hs : Ok1 hs 0
 r2 : Ok1 r2 0
 ts : ∀ j, Ok1 (ts j) 77
 lg : ∀ j, Ok1 (lg j) 99
 hl : ∀ j, Ok1 (hl j) 0
 fo : ∀ k, Ok1 (fo k) (fc k)
 fn : ∀ k, Ok1 (fn k) (fc k)
section
variable {s a a' e tok hs r2 : AV} {ts lg hl fo fn : Nat -> AV}
theorem cd_1 {k : Nat} (h1 : 100 <= k) (h2 : k < 200) : cd k = 77 := by
 unfold cd
 split <;> first | omega | (rw [if_neg (by omega), if_pos (by omega)])
theorem cd_2 {k : Nat} (h1 : 200 <= k) (h2 : k < 300) : cd k = 99 := by
 unfold cd
 split <;> first | omega | (rw [if_neg (by omega), if_neg (by omega), if_pos (by omega)])
theorem cd_3 {k : Nat} (h1 : 300 <= k) (h2 : k < 500) : cd k = 0 := by
 unfold cd
 split <;> first | omega | (rw [if_neg (by omega), if_neg (by omega), if_neg (by omega), if_pos (by omega)])
theorem cd_5 {k : Nat} (h1 : 500 <= k) : cd k = fc (k % 100) := by
 unfold cd
 split <;> first
  | omega
  | (rw [if_neg (by omega), if_neg (by omega), if_neg (by omega), if_neg (by omega)]
     unfold fc
     split <;> simp_all)
theorem KOk.gt (h : KOk s a a' e tok hs r2 ts lg hl fo fn) : GT (bK s a a' e tok hs r2 ts lg hl fo fn) := by
 intro k
 unfold bK
 split
 ·split <;> first | exact h.a | exact h.a' | exact h.s | exact h.e | exact h.tok | exact h.hs | exact h.r2 | exact ok_dfl _
 split
 ·rw [cd_1 (by omega) (by omega)]; exact h.ts _
 split
 ·rw [cd_2 (by omega) (by omega)]; exact h.lg _
 split
 ·rw [cd_3 (by omega) (by omega)]; exact h.hl _
 split
 ·rw [cd_5 (by omega), show k % 100 = k - 500 by omega]; exact h.fo _
 split
 ·rw [cd_5 (by omega), show k % 100 = k - 600 by omega]; exact h.fn _
 ·exact ok_dfl _
theorem bk_1 {j : Nat} (h : j < 100) : bK s a a' e tok hs r2 ts lg hl fo fn (100 + j) = ts j := by
 unfold bK; rw [if_neg (by omega), if_pos (by omega), show 100 + j - 100 = j by omega]
theorem bk_2 {j : Nat} (h : j < 100) : bK s a a' e tok hs r2 ts lg hl fo fn (200 + j) = lg j := by
 unfold bK; rw [if_neg (by omega), if_neg (by omega), if_pos (by omega), show 200 + j - 200 = j by omega]
theorem bk_3 {j : Nat} (h : j < 200) : bK s a a' e tok hs r2 ts lg hl fo fn (300 + j) = hl j := by
 unfold bK; rw [if_neg (by omega), if_neg (by omega), if_neg (by omega), if_pos (by omega), show 300 + j - 300 = j by omega]
theorem bk_5 {j : Nat} (h : j < 100) : bK s a a' e tok hs r2 ts lg hl fo fn (500 + j) = fo j := by
 unfold bK; rw [if_neg (by omega), if_neg (by omega), if_neg (by omega), if_neg (by omega), if_pos (by omega), show 500 + j - 500 = j by omega]
theorem bk_6 {j : Nat} (h : j < 100) : bK s a a' e tok hs r2 ts lg hl fo fn (600 + j) = fn j := by
 unfold bK; rw [if_neg (by omega), if_neg (by omega), if_neg (by omega), if_neg (by omega), if_neg (by omega), if_pos (by omega), show 600 + j - 600 = j by omega]
end
theorem map_range_set (m : Nat) (f : Nat -> AV) (k : Nat) (v : AV) : ((List.range m).map f).set k v = (List.range m).map (up f k v) := by
 refine List.ext_getElem (by simp) fun j h1 h2 => ?_
 rw [List.getElem_set]
 simp only [List.getElem_map, List.getElem_range]
 unfold up
 by_cases h : k = j
 ·rw [if_pos h, if_pos h.symm]
 ·rw [if_neg h, if_neg (fun e => h e.symm)]
theorem map_getD {α : Type} (l : List α) (d : α) : (List.range l.length).map (fun j => l.getD j d) = l := by
 refine List.ext_getElem (by simp) fun j h1 h2 => ?_
 simp [List.getD_eq_getElem?_getD, h2]
theorem cs_101 {num o : Nat} {N : Int} : CS num o N 101 = N + 1 := by unfold CS; simp
theorem otkL_map' {α : Type} {f : α -> AV} : ∀ {l : List α}, (∀ x, x ∈ l -> otk (f x) = true) -> otkL (l.map f) = true
 | [], _ => rfl
 | a :: l, h => by rw [List.map_cons, otkL, h a List.mem_cons_self, otkL_map' (l := l) (fun x hx => h x (List.mem_cons_of_mem _ hx))]; rfl
theorem otk_logP {l : Nat} (h : l <= 90) : otkL (logP l) = true := otkL_map' fun j hj => otk_ob (cd_2 (by omega) (by have := List.mem_range.1 hj; omega))
theorem otk_hsP {l : Nat} (h : l <= 90) : otkL (hsP l) = true := otkL_map' fun j hj => otk_ob (cd_3 (by omega) (by have := List.mem_range.1 hj; omega))
theorem otk_tksP {n idx : Nat} {t : AV} (h : n <= 6) (ht : otk t = true) : otkL (tksP n n idx t) = true :=
 otkL_set (otkL_map' fun j hj => otk_ob (cd_1 (by omega) (by have := List.mem_range.1 hj; omega))) ht
theorem otk_oldT : otk oldT = true := otk_shP (fun _ h => otk_cmp5 h) (otk_cmp5 (by omega)) rfl rfl
theorem nrf_wK {n idx : Nat} {a t st hs : AV} {lg : List AV} (h1 : nrf a = true) (h2 : nrf st = true) (h3 : nrf hs = true) : nrf (wK n idx a t lg st hs) = true := nrf_agg fun x hx => by
 simp only [List.mem_cons, List.not_mem_nil, or_false] at hx
 rcases hx with rfl | rfl | rfl | rfl | rfl | rfl
 ·rfl
 ·exact h1
 ·exact nrf_sv
 ·exact nrf_sv
 ·exact h2
 ·exact h3
theorem pk_put {n idx k l : Nat} {dl : List Bool} {hs hs' d t' ev : AV} {log' : List AV} (h : pk n idx k l dl hs hs' d t' ev log' = true) (hn : n <= 6) (hl : l <= 90) {X : Nat -> AV} (hX : GT X) {N : Int} (hN1 : 1 <= N) (hN2 : N <= 100000000)
  (o1 : otk hs = true) (n1 : nrf hs = true) (o2 : otk t' = true) (o3 : otk ev = true) {W : AV} (hW : inst X (CS 1 1 N) (wK n idx (.ob 60 40) oldT (logP l) (.cn 100) hs) = W) (h12 : PurC 12 [W] (openA n dl))
  {T : AV} (hT : inst X (CS 1 1 N) oldT = T) (h22 : PurC 22 [X 60, T, i (N + 1)] (.tup [X 61, inst X (CS 1 1 N) t', inst X (CS 1 1 N) ev, i 0])) :
  PurC 13 [W, i k] (.tup [inst X (CS 1 1 N) (wK n idx (.ob 61 40) t' log' (.cn 101) hs'), i 0]) := by
 have hm : MemC X (CS 1 1 N) [⟨12, [wK n idx (.ob 60 40) oldT (logP l) (.cn 100) hs], openA n dl⟩, ⟨22, [.ob 60 40, oldT, .cn 101], .tup [.ob 61 40, t', ev, i 0]⟩] :=
  .cons (by rw [instL_cons, instL_nil, hW, inst_c (cl_openA n dl)]; exact h12) (okt_cl X _ (cl_openA n dl).ntg) (by rw [nrfL, nrfL, nrf_wK rfl rfl n1]; rfl)
   (.cons (by rw [instL_cons, instL_cons, instL_cons, instL_nil, inst_ob, hT, inst_cn, cs_101, inst_tup, instL_cons, instL_cons, instL_cons, instL_cons, instL_nil, inst_ob, inst_i]; exact h22)
    (okt_of hX _ (otk_tup (otkL_cons rfl (otkL_cons o2 (otkL_cons o3 (otkL_cons rfl otkL_nil)))))) rfl .nil)
 have := rn_put h hX.gxn (hCS (num := 1) (o := 1) (by omega) (by omega) (by omega) (by omega) hN1 hN2) hm (oktL_of hX _ (by
  exact otkL_cons (otk_wP rfl rfl (otk_tksP hn otk_oldT) (otk_sv (otk_logP hl)) rfl o1) (otkL_cons rfl otkL_nil)))
 rw [instL_cons, instL_cons, instL_nil, hW, inst_i, inst_tup, instL_cons, instL_cons, instL_nil, inst_i] at this
 exact this
theorem inst_wK {X : Nat -> AV} {C : Nat -> Int} {n idx ka : Nat} {t st hs : AV} {lg : List AV} : inst X C (wK n idx (.ob ka 40) t lg st hs) = wA (X 62) (X ka) (((List.range (n + n)).map fun j => X (100 + j)).set idx (inst X C t)) (.sv (instL X C lg) false) (inst X C st) (inst X C hs) := by
 unfold wK wP wA tksP
 rw [inst_agg, instL_cons, instL_cons, instL_cons, instL_cons, instL_cons, instL_cons, instL_nil, inst_ob, inst_ob, inst_sv, inst_sv, instL_set, instL_map]
 simp only [inst_ob]
section
variable {s a a' e tok hs r2 : AV} {ts hl fo fn : Nat -> AV} {C : Nat -> Int} {n idx : Nat} {lg : List AV}
theorem inst_ts (hn : n <= 6) {lf : Nat -> AV} {v : AV} : ((List.range (n + n)).map fun j => bK s a a' e tok hs r2 ts lf hl fo fn (100 + j)).set idx v = (List.range (n + n)).map (up ts idx v) := by
 rw [<- map_range_set]
 congr 1
 refine List.map_congr_left fun j hj => bk_1 ?_
 have := List.mem_range.1 hj
 omega
theorem inst_lg (h : lg.length <= 90) : instL (bK s a a' e tok hs r2 ts (fun j => lg.getD j (dfl 99)) hl fo fn) C (logP lg.length) = lg := by
 unfold logP
 rw [instL_map]
 refine Eq.trans (List.map_congr_left fun j hj => ?_) (map_getD lg (dfl 99))
 have := List.mem_range.1 hj
 rw [inst_ob, bk_2 (by omega)]
theorem inst_hs {hl : List AV} {lf : Nat -> AV} (h : hl.length <= 90) : instL (bK s a a' e tok hs r2 ts lf (fun j => hl.getD j (i 0)) fo fn) C (hsP hl.length) = hl := by
 unfold hsP
 rw [instL_map]
 refine Eq.trans (List.map_congr_left fun j hj => ?_) (map_getD hl (i 0))
 have := List.mem_range.1 hj
 rw [inst_ob, bk_3 (by omega)]
theorem inst_old {lf : Nat -> AV} : inst (bK s a a' e tok hs r2 ts lf hl fo fn) C oldT = tkF' fo false .sn := by
 unfold oldT
 rw [inst_shP (f := fo) (fun k h _ _ => bk_5 (by omega)) (by unfold cmp; rw [inst_ob]; exact bk_5 (by omega)), inst_sn]
theorem inst_new {lf : Nat -> AV} {d : Bool} {res : AV} : inst (bK s a a' e tok hs r2 ts lf hl fo fn) C (newT d res) = tkF' fn d (inst (bK s a a' e tok hs r2 ts lf hl fo fn) C res) := by
 unfold newT
 rw [inst_shP (f := fn) (fun k h _ _ => bk_6 (by omega)) (by unfold cmp; rw [inst_ob]; exact bk_6 (by omega))]
end
theorem otk_newT {d : Bool} {res : AV} (h : otk res = true) : otk (newT d res) = true := otk_shP (fun _ h => otk_cmp6 h) (otk_cmp6 (by omega)) rfl h
theorem getD_ok {l : List AV} {c : Nat} {d : AV} (h : ∀ x, x ∈ l -> Ok1 x c) (hd : Ok1 d c) (j : Nat) : Ok1 (l.getD j d) c := by
 rw [List.getD_eq_getElem?_getD]
 by_cases e : j < l.length
 ·rw [List.getElem?_eq_getElem e]; exact h _ (List.getElem_mem e)
 ·rw [List.getElem?_eq_none (by omega)]; exact hd
structure PW (n idx k : Nat) (dl : List Bool) (s a : AV) (ts fo : Nat -> AV) (lg hs : List AV) (N : Int) : Prop where
 n6 : n <= 6
 n1 : 1 <= n
 hdl : dl.length = n
 hk : k < (openL n dl).length
 hidx : idx = (openL n dl).getD k 0
 hst : Ok1 s 28
 har : Ok1 a 40
 hts : ∀ j, Ok1 (ts j) 77
 hfo : ∀ k, Ok1 (fo k) (fc k)
 at_ : ts idx = tkF' fo false .sn
 hlg : ∀ x, x ∈ lg -> Ok1 x 99
 hln : ∃ g, g <= n /\ lg.length = n + g
 hhs : ∀ x, x ∈ hs -> Ok1 x 0
 hhn : hs.length = (dl.filter fun b => b).length
 N1 : 1 <= N
 N2 : N <= 100000000
 op : PurC 12 [wA s a ((List.range (n + n)).map ts) (.sv lg false) (i N) (sln hs)] (openA n dl)
section
variable {n idx k : Nat} {dl : List Bool} {s a : AV} {ts fo : Nat -> AV} {lg hs : List AV} {N : Int}
theorem ok_sln {l : List AV} (h : ∀ x, x ∈ l -> Ok1 x 0) : Ok1 (sln l) 0 := by
 cases l with
 | nil => exact ⟨rfl, rfl, fun e => (by cases e), fun _ e => (by cases e), rfl⟩
 | cons a l => exact ⟨nrf_sv, ntg_sv fun x hx => (h x hx).ntg, fun e => (by cases e), fun _ e => (by cases e), rfl⟩
theorem PW.run (h : PW n idx k dl s a ts fo lg hs N) : ∃ g, g <= n /\ lg.length = n + g /\ cPl n idx k lg.length dl = true /\ cPe n idx k lg.length dl = true /\ cPr n idx k lg.length hs.length dl = true := by
 obtain ⟨g, h1, h2⟩ := h.hln
 have h3 := all_r (all_r (cPick_ok h.n1 h.n6 h.hdl) h.hk) (Nat.lt_succ_of_le h1)
 rw [<- h.hidx, <- h2, <- h.hhn] at h3
 obtain ⟨h4, h5⟩ := and'_ok h3
 obtain ⟨h5, h6⟩ := and'_ok h5
 exact ⟨g, h1, h2, h4, h5, h6⟩
theorem dl_count (dl : List Bool) : (dl.filter fun b => b).length <= dl.length := List.length_filter_le _ _
theorem PW.plain (h : PW n idx k dl s a ts fo lg hs N) {a' : AV} {fn : Nat -> AV} (ha : Ok1 a' 40) (hf : ∀ k, Ok1 (fn k) (fc k)) (h22 : PurC 22 [a, ts idx, i (N + 1)] (.tup [a', tkF' fn false .sn, .sn, i 0])) :
  PurC 13 [wA s a ((List.range (n + n)).map ts) (.sv lg false) (i N) (sln hs), i k] (.tup [wA s a' ((List.range (n + n)).map (up ts idx (tkF' fn false .sn))) (.sv lg false) (i (N + 1)) (sln hs), i 0]) := by
 obtain ⟨g, h1, h2, h3, _, _⟩ := h.run
 have h6 := h.n6
 have hK : KOk s a a' (dfl 99) (i 0) (sln hs) (i 0) ts (fun j => lg.getD j (dfl 99)) (fun _ => i 0) fo fn := ⟨h.hst, h.har, ha, ok_dfl 99, ok_i, ok_sln h.hhs, ok_i, h.hts, getD_ok h.hlg (ok_dfl 99), fun _ => ok_i, h.hfo, hf⟩
 have key := pk_put h3 h6 (by omega) hK.gt h.N1 h.N2 (o1 := rfl) (n1 := rfl) (o2 := otk_newT rfl) (o3 := rfl) (T := tkF' fo false .sn) (W := wA s a ((List.range (n + n)).map ts) (.sv lg false) (i N) (sln hs)) (by
  rw [inst_wK, inst_lg (by omega), inst_old, inst_ts h6, <- h.at_, up_self rfl, inst_cn, cs_100, inst_ob]; rfl) h.op inst_old (by
  rw [inst_new, inst_sn, <- h.at_]; exact h22)
 rw [inst_wK, inst_lg (by omega), inst_new, inst_sn, inst_ts h6, inst_cn, cs_101, inst_ob] at key
 exact key
theorem PW.event (h : PW n idx k dl s a ts fo lg hs N) {a' e : AV} {fn : Nat -> AV} (ha : Ok1 a' 40) (he : Ok1 e 99) (hf : ∀ k, Ok1 (fn k) (fc k)) (h22 : PurC 22 [a, ts idx, i (N + 1)] (.tup [a', tkF' fn false .sn, .sv [e] false, i 0])) :
  PurC 13 [wA s a ((List.range (n + n)).map ts) (.sv lg false) (i N) (sln hs), i k] (.tup [wA s a' ((List.range (n + n)).map (up ts idx (tkF' fn false .sn))) (.sv (lg ++ [e]) false) (i (N + 1)) (sln hs), i 0]) := by
 obtain ⟨g, h1, h2, _, h3, _⟩ := h.run
 have h6 := h.n6
 have hK : KOk s a a' e (i 0) (sln hs) (i 0) ts (fun j => lg.getD j (dfl 99)) (fun _ => i 0) fo fn := ⟨h.hst, h.har, ha, he, ok_i, ok_sln h.hhs, ok_i, h.hts, getD_ok h.hlg (ok_dfl 99), fun _ => ok_i, h.hfo, hf⟩
 have key := pk_put h3 h6 (by omega) hK.gt h.N1 h.N2 (o1 := rfl) (n1 := rfl) (o2 := otk_newT rfl) (o3 := rfl) (T := tkF' fo false .sn) (W := wA s a ((List.range (n + n)).map ts) (.sv lg false) (i N) (sln hs)) (by
  rw [inst_wK, inst_lg (by omega), inst_old, inst_ts h6, <- h.at_, up_self rfl, inst_cn, cs_100, inst_ob]; rfl) h.op inst_old (by
  rw [inst_new, inst_sn, <- h.at_, inst_sv, instL_cons, instL_nil, inst_ob]; exact h22)
 rw [inst_wK, instL_app, inst_lg (by omega), instL_cons, instL_nil, inst_ob, inst_new, inst_sn, inst_ts h6, inst_cn, cs_101, inst_ob] at key
 exact key
theorem PW.last (h : PW n idx k dl s a ts fo lg hs N) {a' tok r2 : AV} {fn : Nat -> AV} (ha : Ok1 a' 40) (hk : Ok1 tok 0) (hr : Ok1 r2 0) (hf : ∀ k, Ok1 (fn k) (fc k)) (h22 : PurC 22 [a, ts idx, i (N + 1)] (.tup [a', tkF' fn true (.sv [.agg 78 [i 0, i 0, .sv [tok] false, r2, i 0, i 0, i 0]] false), .sn, i 0])) :
  PurC 13 [wA s a ((List.range (n + n)).map ts) (.sv lg false) (i N) (sln hs), i k] (.tup [wA s a' ((List.range (n + n)).map (up ts idx (tkF' fn true (.sv [.agg 78 [i 0, i 0, .sv [tok] false, r2, i 0, i 0, i 0]] false)))) (.sv lg false) (i (N + 1)) (sln (hs ++ [tok])), i 0]) := by
 obtain ⟨g, h1, h2, _, _, h3⟩ := h.run
 have h6 := h.n6
 have hh : hs.length <= 90 := by have := dl_count dl; have := h.hhn; have := h.hdl; omega
 have hK : KOk s a a' (dfl 99) tok (sln hs) r2 ts (fun j => lg.getD j (dfl 99)) (fun j => hs.getD j (i 0)) fo fn := ⟨h.hst, h.har, ha, ok_dfl 99, hk, ok_sln h.hhs, hr, h.hts, getD_ok h.hlg (ok_dfl 99), getD_ok h.hhs ok_i, h.hfo, hf⟩
 have hsl : ∀ l : List AV, inst (bK s a a' (dfl 99) tok (sln hs) r2 ts (fun j => lg.getD j (dfl 99)) (fun j => hs.getD j (i 0)) fo fn) (CS 1 1 N) (sln l) = sln (instL (bK s a a' (dfl 99) tok (sln hs) r2 ts (fun j => lg.getD j (dfl 99)) (fun j => hs.getD j (i 0)) fo fn) (CS 1 1 N) l) := by
  intro l
  cases l with
  | nil => rw [instL_nil]; exact inst_sn
  | cons x l => rw [instL_cons]; show inst _ _ (.sv (x :: l) false) = _; rw [inst_sv, instL_cons]; rfl
 have osl : ∀ l : List AV, otkL l = true -> otk (sln l) = true := by
  intro l hl
  cases l with
  | nil => rfl
  | cons x l => show otk (.sv (x :: l) false) = true; rw [otk]; exact hl
 have hres : inst (bK s a a' (dfl 99) tok (sln hs) r2 ts (fun j => lg.getD j (dfl 99)) (fun j => hs.getD j (i 0)) fo fn) (CS 1 1 N) (.sv [resP] false) = .sv [.agg 78 [i 0, i 0, .sv [tok] false, r2, i 0, i 0, i 0]] false := by
  unfold resP
  rw [inst_sv, instL_cons, instL_nil, inst_agg, instL_cons, instL_cons, instL_cons, instL_cons, instL_cons, instL_cons, instL_cons, instL_nil, inst_sv, instL_cons, instL_nil, inst_ob, inst_ob, inst_ob, inst_ob, inst_ob, inst_ob, inst_ob]; rfl
 have key := pk_put h3 h6 (by omega) hK.gt h.N1 h.N2 (o1 := osl _ (otk_hsP hh)) (n1 := nrf_sln) (o2 := otk_newT rfl) (o3 := rfl) (T := tkF' fo false .sn) (W := wA s a ((List.range (n + n)).map ts) (.sv lg false) (i N) (sln hs)) (by
  rw [inst_wK, inst_lg (by omega), inst_old, inst_ts h6, <- h.at_, up_self rfl, inst_cn, cs_100, hsl, inst_hs hh]; rfl) h.op inst_old (by
  rw [inst_new, hres, inst_sn, <- h.at_]; exact h22)
 rw [inst_wK, inst_lg (by omega), inst_new, hres, inst_ts h6, inst_cn, cs_101, hsl, instL_app, inst_hs hh, instL_cons, instL_nil, inst_ob] at key
 exact key
end
end Go.Proofs.YtgaghaggiblabaaGreatDoor.Ev.T
namespace Go.Proofs.YtgaghaggiblabaaGreatDoor.Ev.T
open Go Go.RowKit
open Mach (S up nxt)
noncomputable def bB (live n : Nat) (o sh st : Nat -> AV) (s lg t hs : AV) (k : Nat) : AV := match k with
 | 0 => .agg 133 [o 0, sh 0] | 1 => .agg 133 [o 1, sh 1] | 2 => .agg 133 [o 2, sh 2] | 3 => st 0 | 4 => st 1 | 5 => st 2 | 6 => deadA | 7 => dirA live | 8 => i (n + 1 : Nat)
 | 62 => s | 65 => lg | 66 => t | 67 => hs | k => dfl (cd k)
section
variable {live n : Nat} {o sh st : Nat -> AV} {s lg t hs : AV} {F : Nat -> Nat -> AV}
theorem gt_bB (ho : ∀ c, Cl (o c)) (hs' : ∀ c, Ok1 (sh c) 125) (ht : ∀ c, Ok1 (st c) 136) (h2 : Ok1 s 28) (h3 : Ok1 lg 0) (h4 : Ok1 t 0) (h5 : Ok1 hs 0) (hF : ∀ j k, Ok1 (F j k) (fc k)) : GT (XB (bB live n o sh st s lg t hs) F) := gt_xb (fun k _ => by
 unfold bB
 split <;> first
  | exact ok_agg (.agg (cl_cons (ho _) (cl_cons (.of (hs' _)) cl_nil)))
  | exact ht _
  | exact ok_agg cl_dead
  | exact ok_agg (cl_dir _)
  | exact ok_i
  | exact h2 | exact h3 | exact h4 | exact h5 | exact ok_dfl _) hF
theorem otk_shB {j : Nat} {d : Bool} : otk (shB (1000 + 100 * j) d) = true := by
 cases d with
 | true => exact otk_shP (fun k h => otk_cmp (by omega)) (otk_cmp (by omega)) rfl (otk_cmp (by omega))
 | false =>
  have h : ∀ k, k < 100 -> otk (cmp (1000 + 100 * j) k) = true := fun k hk => otk_cmp hk
  unfold shB
  simp only [otk, otkL, h 0 (by omega), h 2 (by omega), h 4 (by omega), h 5 (by omega), h 7 (by omega), h 8 (by omega), h 9 (by omega), h 10 (by omega), h 11 (by omega), h 12 (by omega), h 13 (by omega), h 14 (by omega), h 15 (by omega), h 16 (by omega), h 17 (by omega), h 81 (by omega), h 82 (by omega), h 83 (by omega), h 84 (by omega), h 85 (by omega), Bool.and_self]
theorem inst_shB {b : Nat -> AV} {C : Nat -> Int} {j : Nat} {d : Bool} (h : d = false -> F j 6 = i 0 /\ F j 1 = .agg 53 [i 2, F j 81, i 1, i 50, F j 82, F j 83, F j 84, F j 85]) : inst (XB b F) C (shB (1000 + 100 * j) d) = tkF' (F j) d (F j 7) := by
 have hx : ∀ k, k < 100 -> inst (XB b F) C (cmp (1000 + 100 * j) k) = F j k := fun k hk => by unfold cmp; rw [inst_ob]; exact xb_hi hk
 cases d with
 | true =>
  show inst _ _ (shP _ _ _ _) = _
  rw [inst_shP (f := F j) (fun k h _ _ => xb_hi (by omega)) (hx 0 (by omega)), hx 7 (by omega)]
 | false =>
  obtain ⟨h6, h1⟩ := h rfl
  unfold shB tkF'
  simp only [inst_agg, instL_cons, instL_nil, inst_b, inst_i]
  rw [hx 0 (by omega), hx 2 (by omega), hx 4 (by omega), hx 5 (by omega), hx 7 (by omega), hx 8 (by omega), hx 9 (by omega), hx 10 (by omega), hx 11 (by omega), hx 12 (by omega), hx 13 (by omega), hx 14 (by omega), hx 15 (by omega), hx 16 (by omega), hx 17 (by omega), hx 81 (by omega), hx 82 (by omega), hx 83 (by omega), hx 84 (by omega), hx 85 (by omega), h6, h1]
theorem inst_ar0B {C : Nat -> Int} : inst (XB (bB live n o sh st s lg t hs) F) C ar0 = arW live n o sh st := by
 simp only [ar0, arP, inst_agg, inst_sv, inst_ob, inst_i, instL_cons, instL_nil]; rfl
theorem pur_bound {dl : List Bool} (h : cBound n dl = true) (ho : ∀ c, Cl (o c)) (hs' : ∀ c, Ok1 (sh c) 125) (ht : ∀ c, Ok1 (st c) 136) (h2 : Ok1 s 28) (h3 : Ok1 lg 0) (h4 : Ok1 t 0) (h5 : Ok1 hs 0) (hF : ∀ j k, Ok1 (F j k) (fc k))
  (hd : ∀ j, j < n + dl.length -> dnB n dl j = false -> F j 6 = i 0 /\ F j 1 = .agg 53 [i 2, F j 81, i 1, i 50, F j 82, F j 83, F j 84, F j 85]) :
  PurC 19 [wA s (arW live n o sh st) (tksF (n + dl.length) F (dnB n dl)) lg t hs] (i (boundN (openL n dl).length : Nat)) := by
 have hX := gt_bB (live := live) (n := n) ho hs' ht h2 h3 h4 h5 hF
 have := rn_put (X := XB (bB live n o sh st s lg t hs) F) (C := C0) h hX.gxn hC0 .nil (oktL_of hX _ (by
  have ho : otkL ((List.range (n + dl.length)).map fun j => shB (1000 + 100 * j) (dnB n dl j)) = true := otkL_map (fun j => otk_shB) _
  exact otkL_cons (otk_wP p62 rfl ho p65 p66 p67) otkL_nil))
 rw [inst_i, instL_cons, instL_nil] at this
 have e : inst (XB (bB live n o sh st s lg t hs) F) C0 (wB n dl) = wA s (arW live n o sh st) (tksF (n + dl.length) F (dnB n dl)) lg t hs := by
  have e1 : instL (XB (bB live n o sh st s lg t hs) F) C0 ((List.range (n + dl.length)).map fun j => shB (1000 + 100 * j) (dnB n dl j)) = tksF (n + dl.length) F (dnB n dl) := by
   rw [instL_map]
   exact List.map_congr_left fun j hj => inst_shB (hd j (List.mem_range.1 hj))
  unfold wB wP wA
  rw [inst_agg, instL_cons, instL_cons, instL_cons, instL_cons, instL_cons, instL_cons, instL_nil, inst_sv, e1, inst_ar0B, inst_ob, inst_ob, inst_ob, inst_ob]
  rfl
 rw [e] at this
 exact this
theorem cl_invR (h : Nat) : Cl (invRA h) := .agg (cl_cons .i (cl_cons .i (cl_cons .i (cl_cons .i (cl_cons .i (cl_cons .i (cl_cons .sn (cl_cons .sn cl_nil))))))))
theorem cl_y32 : Cl y32 := .agg (cl_cons .i (cl_cons .sn cl_nil))
theorem cl_y37 : Cl y37 := .agg (cl_cons .i (cl_cons .sn (cl_cons .sn cl_nil)))
theorem cl_y68 : Cl y68 := .agg (cl_cons .sn (cl_cons cl_y32 (cl_cons .sn (cl_cons .sn (cl_cons .sn cl_nil)))))
theorem cl_secZ : Cl secZ := .agg (cl_cons .i (cl_cons .i (cl_cons (.agg (cl_cons .sn (cl_cons .i (cl_cons .i (cl_cons .i (cl_cons .i cl_nil)))))) (cl_cons (.agg (cl_cons .i (cl_cons .i (cl_cons .i (cl_cons .i cl_nil))))) (cl_cons .sn (cl_cons cl_y32 (cl_cons .sn (cl_cons cl_y37 (cl_cons cl_y68 (cl_cons .i (cl_cons .sn cl_nil)))))))))))
theorem cl_i2 : Cl (.agg 72 [i 0, i 0]) := .agg (cl_cons .i (cl_cons .i cl_nil))
theorem cl_i4 : Cl (.agg 74 [i 0, i 0, i 0, i 0]) := .agg (cl_cons .i (cl_cons .i (cl_cons .i (cl_cons .i cl_nil))))
theorem cl_tkR (live num h : Nat) {v : AV} (hv : Cl v) : Cl (tkRA live num h v) := .agg (cl_cons .i (cl_cons (cl_invR h) (cl_cons hv (cl_cons .b (cl_cons .i (cl_cons .i (cl_cons .i (cl_cons .sn (cl_cons (cl_setup live) (cl_cons cl_secZ (cl_cons cl_y37 (cl_cons cl_i2 (cl_cons .i (cl_cons .i (cl_cons cl_i4 (cl_cons .i (cl_cons .sn (cl_cons .sn cl_nil))))))))))))))))))
theorem pur_invoke {r hm : Nat} {a : AV} (h : cInvR live n r hm = true) (h2 : Ok1 a 40) (h3 : Ok1 lg 0) (h5 : Ok1 hs 0) (hF : ∀ j k, Ok1 (F j k) (fc k)) :
  PurC 8 [wA (setupA live) a (tksF (n + r) F fun j => Nat.blt j n) lg (i (stepsN live n)) hs, invRA hm]
   (.tup [wA (setupA live) a (tksF (n + r) F (fun j => Nat.blt j n) ++ [tkRA live (n + r + 1) hm (i (stepsN live n))]) lg (i (stepsN live n)) hs, i (n + r + 1 : Nat), i 0]) := by
 have hX := gt_bO (s := setupA live) (t := i 0) (ok_agg (cl_setup live)) h2 h3 ok_i h5 hF
 have hso := otk_cl _ (cl_setup live).ntg
 have hio := otk_cl _ (cl_invR hm).ntg
 have := rn_put (X := XB (bO (setupA live) a lg (i 0) hs) F) (C := C0) h hX.gxn hC0 .nil (oktL_of hX _ (by
  have ho : otkL (tksI n r) = true := otk_tks (d := fun j => Nat.blt j n)
  exact otkL_cons (otk_wP hso p60 ho p65 rfl p67) (otkL_cons hio otkL_nil)))
 have e1 : instL (XB (bO (setupA live) a lg (i 0) hs) F) C0 (tksI n r) = tksF (n + r) F fun j => Nat.blt j n := inst_tks (d := fun j => Nat.blt j n)
 rw [inst_tup, instL_cons, instL_cons, instL_nil, instL_cons, instL_cons, instL_cons, instL_nil, inst_i, inst_i, inst_c (cl_invR hm)] at this
 unfold wI wP at this
 rw [inst_agg, instL_cons, instL_cons, instL_cons, instL_cons, instL_cons, instL_cons, instL_nil, inst_sv, e1, inst_c (cl_setup live), inst_ob, inst_ob, inst_ob, inst_i, inst_agg, instL_cons, instL_cons, instL_cons, instL_cons, instL_cons, instL_cons, instL_nil, inst_sv, instL_app, e1, instL_cons, instL_nil, inst_c (cl_tkR live (n + r + 1) hm .i), inst_c (cl_setup live), inst_ob, inst_ob, inst_ob, inst_i] at this
 exact this
end
end Go.Proofs.YtgaghaggiblabaaGreatDoor.Ev.T
namespace Go.Proofs.YtgaghaggiblabaaGreatDoor.Ev.T
open Go Go.RowKit
open Mach (S up nxt)
def dlOf (n : Nat) (s : S) : List Bool := (List.range n).map fun j => Mach.isDone (s.loc j)
theorem dlOf_len (n : Nat) (s : S) : (dlOf n s).length = n := by unfold dlOf; rw [List.length_map, List.length_range]
theorem dlOf_get {n j : Nat} {s : S} (h : j < n) (d : Bool) : (dlOf n s).getD j d = Mach.isDone (s.loc j) := by
 unfold dlOf
 rw [List.getD_eq_getElem?_getD, List.getElem?_map, List.getElem?_range h]
 rfl
theorem dnB_lo {n j : Nat} {dl : List Bool} (h : j < n) : dnB n dl j = true := by unfold dnB; rw [blt_t h]; rfl
theorem dnB_hi {n j : Nat} {dl : List Bool} : dnB n dl (n + j) = dl.getD j true := by unfold dnB; rw [blt_f (by omega), show n + j - n = j by omega]; rfl
def opL (n : Nat) (s : S) : List Nat := openL n (dlOf n s)
theorem opL_mem {n m : Nat} {s : S} : m ∈ opL n s ↔ ∃ q, q < n /\ Mach.isDone (s.loc q) = false /\ m = n + q := by
 unfold opL openL
 rw [List.mem_filter, List.mem_range, dlOf_len]
 constructor
 ·rintro ⟨h1, h2⟩
  by_cases h : m < n
  ·rw [dnB_lo h] at h2; cases h2
  ·refine ⟨m - n, by omega, ?_, by omega⟩
   rw [show m = n + (m - n) by omega, dnB_hi, dlOf_get (by omega)] at h2
   cases e : Mach.isDone (s.loc (m - n)) with
   | false => rfl
   | true => rw [e] at h2; cases h2
 ·rintro ⟨q, h1, h2, rfl⟩
  refine ⟨by omega, ?_⟩
  rw [dnB_hi, dlOf_get h1, h2]; rfl
theorem opL_nodup (n : Nat) (s : S) : (opL n s).Nodup := List.Pairwise.filter _ List.nodup_range
theorem opL_at {n k : Nat} {s : S} (hk : k < (opL n s).length) : ∃ q, q < n /\ Mach.isDone (s.loc q) = false /\ (opL n s).getD k 0 = n + q := by
 have : (opL n s).getD k 0 ∈ opL n s := by
  rw [List.getD_eq_getElem?_getD, List.getElem?_eq_getElem hk]
  exact List.getElem_mem hk
 exact opL_mem.1 this
theorem opL_len (n : Nat) (s : S) : (opL n s).length <= n := by
 have h1 := List.length_filter_le (fun j => !dnB n (dlOf n s) j) (List.range (n + (dlOf n s).length))
 have : (opL n s).length = Mach.cnt (fun j => !Mach.isDone (s.loc j)) n := by
  unfold opL openL
  rw [dlOf_len, List.range_add, List.filter_append, List.length_append]
  have e1 : (List.range n).filter (fun j => !dnB n (dlOf n s) j) = [] := List.filter_eq_nil_iff.2 fun j hj => by
   rw [dnB_lo (List.mem_range.1 hj)]; exact fun h => by cases h
  rw [e1, List.length_nil, Nat.zero_add, List.filter_map, List.length_map]
  have key : ∀ m, m <= n -> ((List.range m).filter ((fun j => !dnB n (dlOf n s) j) ∘ (n + ·))).length = Mach.cnt (fun j => !Mach.isDone (s.loc j)) m := by
   intro m
   induction m with
   | zero => intro _; rfl
   | succ m ih =>
    intro hm
    rw [List.range_succ, List.filter_append, List.length_append, ih (by omega)]
    show _ = Mach.cnt (fun j => !Mach.isDone (s.loc j)) m + (if (!Mach.isDone (s.loc m)) = true then 1 else 0)
    congr 1
    show ((List.filter _ [m])).length = _
    rw [List.filter_cons]
    show (if (!dnB n (dlOf n s) (n + m)) = true then _ else _ : List Nat).length = _
    rw [dnB_hi, dlOf_get (by omega)]
    cases Mach.isDone (s.loc m) <;> rfl
  exact key n (Nat.le_refl n)
 rw [this]
 exact Mach.cnt_le _ n
theorem dl_len (n : Nat) (s : S) : ((dlOf n s).filter fun b => b).length = Mach.cnt (fun j => Mach.isDone (s.loc j)) n := by
 unfold dlOf
 have key : ∀ m, (((List.range m).map fun j => Mach.isDone (s.loc j)).filter fun b => b).length = Mach.cnt (fun j => Mach.isDone (s.loc j)) m := by
  intro m
  induction m with
  | zero => rfl
  | succ m ih =>
   rw [List.range_succ, List.map_append, List.filter_append, List.length_append, ih]
   show _ = Mach.cnt (fun j => Mach.isDone (s.loc j)) m + (if Mach.isDone (s.loc m) = true then 1 else 0)
   congr 1
   show ((List.filter _ [Mach.isDone (s.loc m)])).length = _
   cases Mach.isDone (s.loc m) <;> rfl
 exact key n
theorem shape_ok {num : Nat} {d : Bool} {res T : AV} (h : TShape num d res T) (hr : Ok1 res 0) : Ok1 T 77 := by
 obtain ⟨f, h1, _, rfl⟩ := h
 have c : ∀ k, Cl (f k) := fun k => .of (h1 k)
 exact ok_agg (t := 76) (.agg (cl_cons (c _) (cl_cons (c _) (cl_cons (c _) (cl_cons .b (cl_cons (c _) (cl_cons (c _) (cl_cons (c _) (cl_cons (.of hr) (cl_cons (c _) (cl_cons (c _) (cl_cons (c _) (cl_cons (c _) (cl_cons (c _) (cl_cons (c _) (cl_cons (c _) (cl_cons (c _) (cl_cons (c _) (cl_cons (c _) cl_nil)))))))))))))))))))
theorem cl_arW {live n : Nat} {o sh st : Nat -> AV} (ho : ∀ c, Cl (o c)) (hs : ∀ c, Cl (sh c)) (ht : ∀ c, Cl (st c)) : Cl (arW live n o sh st) :=
 .agg (cl_cons (.sv (cl_cons (.agg (cl_cons (ho _) (cl_cons (hs _) cl_nil))) (cl_cons (.agg (cl_cons (ho _) (cl_cons (hs _) cl_nil))) (cl_cons (.agg (cl_cons (ho _) (cl_cons (hs _) cl_nil))) cl_nil))))
  (cl_cons (.sv (cl_cons (ht _) (cl_cons (ht _) (cl_cons (ht _) cl_nil)))) (cl_cons cl_dead (cl_cons (cl_dir _) (cl_cons .i (cl_cons .i (cl_cons .i cl_nil)))))))
theorem ok_arena (live n : Nat) (s : S) : Ok1 (arenaA live n s) 40 := ok_agg (t := 39) (cl_arW (fun _ => .i) (fun _ => cl_shard ..) (fun _ => cl_stripe ..))
structure TS (live n : Nat) (s : S) (ts : Nat -> AV) : Prop where
 ok : ∀ j, Ok1 (ts j) 77
 sd : ∀ j, j < n -> ∃ res, Ok1 res 0 /\ TShape (j + 1) true res (ts j)
 tk : ∀ q, q < n -> TaskRep live n s.vis (n + q + 1) (s.loc q) (ts (n + q))
theorem ok_res {id c : Nat} : Ok1 (.sv [resA id c] false) 0 := ⟨nrf_sv, (Cl.sv (cl_cons (cl_resA id c) cl_nil)).ntg, fun e => (by cases e), fun _ e => (by cases e), rfl⟩
theorem ok_sn : Ok1 .sn 0 := ⟨rfl, rfl, fun e => (by cases e), fun _ e => (by cases e), rfl⟩
def TSh (live n : Nat) (s : S) (j : Nat) (T : AV) : Prop := ∃ f : Nat -> AV, (∀ k, Ok1 (f k) (fc k)) /\ f 0 = i (j + 1 : Nat) /\ f 3 = .bool (dnB n (dlOf n s) j) /\ (dnB n (dlOf n s) j = false -> f 6 = i 0 /\ f 1 = .agg 53 [i 2, f 81, i 1, i 50, f 82, f 83, f 84, f 85]) /\ T = tkF' f (dnB n (dlOf n s) j) (f 7)
theorem ok_b {b : Bool} : Ok1 (.bool b) 0 := ⟨rfl, rfl, fun e => (by cases e), fun _ e => (by cases e), rfl⟩
theorem tsh_done {live n : Nat} {s : S} {j : Nat} {res T : AV} (h : TShape (j + 1) true res T) (hr : Ok1 res 0) (hd : dnB n (dlOf n s) j = true) : TSh live n s j T := by
 obtain ⟨f, h1, h2, rfl⟩ := h
 refine ⟨up (up f 7 res) 3 (.bool true), ok_up (ok_up h1 (j := 7) hr) (j := 3) ok_b, h2, by rw [hd]; rfl, fun e => (by rw [hd] at e; cases e), by rw [hd]; rfl⟩
theorem tsh_open {live n : Nat} {s : S} {j : Nat} {T : AV} (h : TOpen (j + 1) T) (hd : dnB n (dlOf n s) j = false) : TSh live n s j T := by
 obtain ⟨f, h1, h2, h3, h4, rfl⟩ := h
 exact ⟨up (up f 7 .sn) 3 (.bool false), ok_up (ok_up h1 (j := 7) ok_sn) (j := 3) ok_b, h2, by rw [hd]; rfl, fun _ => ⟨h3, h4⟩, by rw [hd]; rfl⟩
theorem TS.sh {live n : Nat} {s : S} {ts : Nat -> AV} (h : TS live n s ts) {j : Nat} (hj : j < n + n) : TSh live n s j (ts j) := by
 by_cases h1 : j < n
 ·obtain ⟨res, hr, hs⟩ := h.sd j h1
  exact tsh_done hs hr (dnB_lo h1)
 ·obtain ⟨q, rfl⟩ : ∃ q, j = n + q := ⟨j - n, by omega⟩
  have hT := h.tk q (by omega)
  cases e : Mach.isDone (s.loc q) with
  | false => exact tsh_open (shape_open hT e) (by rw [dnB_hi, dlOf_get (by omega), e])
  | true =>
   cases hl : s.loc q with
   | done c k x => rw [hl] at hT; exact tsh_done (shape_done hT) ok_res (by rw [dnB_hi, dlOf_get (by omega), e])
   | _ => rw [hl] at e; cases e
theorem TS.parts {live n : Nat} {s : S} {ts : Nat -> AV} (h : TS live n s ts) : ∃ F : Nat -> Nat -> AV, (∀ j k, Ok1 (F j k) (fc k)) /\ (∀ j, j < n + n -> F j 0 = i (j + 1 : Nat) /\ F j 3 = .bool (dnB n (dlOf n s) j) /\ (dnB n (dlOf n s) j = false -> F j 6 = i 0 /\ F j 1 = .agg 53 [i 2, F j 81, i 1, i 50, F j 82, F j 83, F j 84, F j 85])) /\
  (List.range (n + n)).map ts = tksF (n + (dlOf n s).length) F (dnB n (dlOf n s)) := by
 have h' : ∀ j, ∃ f : Nat -> AV, (∀ k, Ok1 (f k) (fc k)) /\ (j < n + n -> f 0 = i (j + 1 : Nat) /\ f 3 = .bool (dnB n (dlOf n s) j) /\ (dnB n (dlOf n s) j = false -> f 6 = i 0 /\ f 1 = .agg 53 [i 2, f 81, i 1, i 50, f 82, f 83, f 84, f 85]) /\ ts j = tkF' f (dnB n (dlOf n s) j) (f 7)) := by
  intro j
  by_cases hj : j < n + n
  ·obtain ⟨f, h1, h2, h3, h4, h5⟩ := h.sh hj
   exact ⟨f, h1, fun _ => ⟨h2, h3, h4, h5⟩⟩
  ·exact ⟨fun k => dfl (fc k), fun k => ok_dfl _, fun e => absurd e hj⟩
 refine ⟨fun j => Classical.choose (h' j), fun j => (Classical.choose_spec (h' j)).1, fun j hj => ?_, ?_⟩
 ·obtain ⟨_, h2⟩ := Classical.choose_spec (h' j)
  obtain ⟨h3, h4, h5, _⟩ := h2 hj
  exact ⟨h3, h4, h5⟩
 ·rw [dlOf_len]
  exact List.map_congr_left fun j hj => ((Classical.choose_spec (h' j)).2 (List.mem_range.1 hj)).2.2.2
structure WD (live n : Nat) (s : S) (ts : Nat -> AV) (lg hs : List AV) : Prop where
 hts : TS live n s ts
 hlg : ∀ x, x ∈ lg -> Ok1 x 99
 hln : lg.length = n + Mach.cnt (fun j => took (s.loc j)) n
 hhs : ∀ x, x ∈ hs -> Ok1 x 0
 hhn : hs.length = Mach.cnt (fun j => Mach.isDone (s.loc j)) n
noncomputable def wW (live n : Nat) (s : S) (ts : Nat -> AV) (lg hs : List AV) (t : Nat) : AV := wA (setupA live) (arenaA live n s) ((List.range (n + n)).map ts) (.sv lg false) (i t) (sln hs)
def WRep (live n : Nat) (s : S) (t : Nat) (W : AV) : Prop := ∃ ts lg hs, WD live n s ts lg hs /\ W = wW live n s ts lg hs t
section
variable {live n t : Nat} {s : S}
theorem ok_svl {l : List AV} {c : Nat} (h : ∀ x, x ∈ l -> Ok1 x c) : Ok1 (.sv l false) 0 := ⟨nrf_sv, ntg_sv fun x hx => (h x hx).ntg, fun e => (by cases e), fun _ e => (by cases e), rfl⟩
theorem WD.open (hb : Bd live n) {ts : Nat -> AV} {lg hs : List AV} (h : WD live n s ts lg hs) : PurC 12 [wW live n s ts lg hs t] (openA n (dlOf n s)) := by
 obtain ⟨F, h1, _, h3⟩ := h.hts.parts
 unfold wW
 rw [h3]
 exact pur_open (cOpen_ok hb.n1 hb.n6 (Nat.le_of_eq (dlOf_len n s))) (ok_agg (cl_setup live)) (ok_arena live n s) (ok_svl h.hlg) ok_i (ok_sln h.hhs) h1
theorem WD.sane (hb : Bd live n) {ts : Nat -> AV} {lg hs : List AV} (h : WD live n s ts lg hs) : PurC 7 [wW live n s ts lg hs t, setupA live] (.bool true) := by
 obtain ⟨F, h1, h2, h3⟩ := h.hts.parts
 unfold wW
 rw [h3]
 have hn6 := hb.n6
 exact pur_sane (cSane_ok hb.l1 hb.l3 (by rw [dlOf_len]; omega)) (fun _ => .i) (fun _ => ok_shard ..) (fun _ => ok_stripe ..) (ok_svl h.hlg) ok_i (ok_sln h.hhs) h1 (fun j hj => (h2 j (by rw [dlOf_len] at hj; exact hj)).1) (fun j hj => (h2 j (by rw [dlOf_len] at hj; exact hj)).2.1)
theorem cBound_ok (hb : Bd live n) {dl : List Bool} (h : dl.length = n) : cBound n dl = true := by
 have h1 := hb.n1
 have h6 := hb.n6
 have : allBound n = true := by
  match n, h1, h6 with
  | 1, _, _ => exact allBound_1
  | 2, _, _ => exact allBound_2
  | 3, _, _ => exact allBound_3
  | 4, _, _ => exact allBound_4
  | 5, _, _ => exact allBound_5
  | 6, _, _ => exact allBound_6
 exact all_mem this (mem_bools h)
theorem WD.bound (hb : Bd live n) {ts : Nat -> AV} {lg hs : List AV} (h : WD live n s ts lg hs) : PurC 19 [wW live n s ts lg hs t] (i (boundN (opL n s).length : Nat)) := by
 obtain ⟨F, h1, h2, h3⟩ := h.hts.parts
 unfold wW
 rw [h3]
 exact pur_bound (cBound_ok hb (dlOf_len n s)) (fun _ => .i) (fun _ => ok_shard ..) (fun _ => ok_stripe ..) (ok_agg (cl_setup live)) (ok_svl h.hlg) ok_i (ok_sln h.hhs) h1 (fun j hj => (h2 j (by rw [dlOf_len] at hj; exact hj)).2.2)
theorem WD.cl {ts : Nat -> AV} {lg hs : List AV} (h : WD live n s ts lg hs) : Ok1 (wW live n s ts lg hs t) 45 :=
 ok_agg (t := 44) (.agg (cl_cons (cl_setup live) (cl_cons (.of (ok_arena live n s)) (cl_cons (.sv (cl_map (fun _ => .of (h.hts.ok _)) _)) (cl_cons (.of (ok_svl h.hlg)) (cl_cons .i (cl_cons (.of (ok_sln h.hhs)) cl_nil)))))))
theorem rep_vis {vis vis' : Nat -> Nat} {num : Nat} {l : Mach.Loc} {T : AV} (h : TaskRep live n vis num l T) (hv : ∀ c, Mach.hold l = some c -> vis' c = vis c) : TaskRep live n vis' num l T := by
 obtain ⟨X, C, hX, hC, hc, e⟩ := h
 refine ⟨X, C, hX, hC, ?_, e⟩
 cases l with
 | u c k o => cases o <;> (simp only [cond] at hc ⊢; rw [hv _ rfl]; exact hc)
 | f c k o => cases o <;> exact hc
 | m1 c k => simp only [cond] at hc ⊢; rw [hv _ rfl]; exact hc
 | ld c k => simp only [cond] at hc ⊢; rw [hv _ rfl]; exact hc
 | s0 c k => simp only [cond] at hc ⊢; rw [hv _ rfl]; exact hc
 | s1 c k => simp only [cond] at hc ⊢; rw [hv _ rfl]; exact hc
 | s2 c k => simp only [cond] at hc ⊢; rw [hv _ rfl]; exact hc
 | st c k j => simp only [cond] at hc ⊢; rw [hv _ rfl]; exact hc
 | _ => exact hc
theorem step_vis {m : Nat -> Nat} {q c : Nat} (h : Mach.hold (s.loc q) ≠ some c) : (Mach.step live m s q).vis c = s.vis c := by
 unfold Mach.step
 cases hl : s.loc q with
 | lk c' k => show (if s.own c' = 0 then _ else s : S).vis c = _; split <;> rfl
 | s2 c' k => show (if s.vis c' < m c' then _ else _ : S).vis c = _; split <;> rfl
 | f c' k o => cases o <;> rfl
 | u c' k o =>
  show up s.vis c' _ c = _
  rw [hl] at h
  exact Mach.up_ne (fun e => h (by rw [e]; rfl))
 | _ => rfl
theorem TS.step {m : Nat -> Nat} (hs : Mach.Inv live n (mN live n) s) {ts : Nat -> AV} (h : TS live n s ts) {q : Nat} (hq : q < n) {T' : AV} (hT : TaskRep live n (Mach.step live (mN live n) s q).vis (n + q + 1) ((Mach.step live (mN live n) s q).loc q) T') (hk : Ok1 T' 77) : TS live n (Mach.step live (mN live n) s q) (up ts (n + q) T') := by
 refine ⟨fun j => ?_, fun j hj => ?_, fun r hr => ?_⟩
 ·unfold up; split
  ·exact hk
  ·exact h.ok j
 ·rw [Mach.up_ne (by omega)]; exact h.sd j hj
 ·by_cases e : r = q
  ·subst e; rw [Mach.up_eq]; exact hT
  ·rw [Mach.up_ne (by omega), Mach.step_loc e]
   refine rep_vis (h.tk r hr) fun c hc => step_vis fun hc' => ?_
   have h1 := (hs.b.b1 r hr c hc).1
   have h2 := (hs.b.b1 q hq c hc').1
   omega
theorem took_mono {m : Nat -> Nat} {q : Nat} (h : took (s.loc q) = true) : took ((Mach.step live m s q).loc q) = true := by
 unfold Mach.step
 cases hl : s.loc q with
 | st c k j => show took (up s.loc q _ q) = true; rw [Mach.up_eq]; rfl
 | u c k o =>
  rw [hl] at h
  cases o with
  | none => cases h
  | some j => show took (up s.loc q _ q) = true; rw [Mach.up_eq]; rfl
 | f c k o =>
  rw [hl] at h
  cases o with
  | none => cases h
  | some j => show took (up s.loc q _ q) = true; rw [Mach.up_eq]; rfl
 | done c k j => show took (s.loc q) = true; rw [hl]; rfl
 | _ => rw [hl] at h; cases h
theorem done_took {m : Nat -> Nat} {q : Nat} (h : Mach.isDone ((Mach.step live m s q).loc q) = true) : took (s.loc q) = true := by
 unfold Mach.step at h
 cases hl : s.loc q with
 | lk c k =>
  rw [hl] at h
  replace h : Mach.isDone ((if s.own c = 0 then _ else s : S).loc q) = true := h
  split at h
  ·replace h : Mach.isDone (up s.loc q _ q) = true := h; rw [Mach.up_eq] at h; cases h
  ·rw [hl] at h; cases h
 | s2 c k =>
  rw [hl] at h
  replace h : Mach.isDone ((if s.vis c < m c then _ else _ : S).loc q) = true := h
  split at h <;> (replace h : Mach.isDone (up s.loc q _ q) = true := h; rw [Mach.up_eq] at h; cases h)
 | f c k o =>
  cases o with
  | some j => rfl
  | none => rw [hl] at h; replace h : Mach.isDone (up s.loc q _ q) = true := h; rw [Mach.up_eq] at h; cases h
 | done c k j => rfl
 | _ => rw [hl] at h; replace h : Mach.isDone (up s.loc q _ q) = true := h; rw [Mach.up_eq] at h; cases h
theorem cnt_same {p : Mach.Loc -> Bool} {m : Nat -> Nat} {q : Nat} (h : p ((Mach.step live m s q).loc q) = p (s.loc q)) : Mach.cnt (fun j => p ((Mach.step live m s q).loc j)) n = Mach.cnt (fun j => p (s.loc j)) n :=
 Mach.cnt_congr fun j _ => by
  by_cases e : j = q
  ·subst e; exact h
  ·show p _ = p _; rw [Mach.step_loc e]
theorem cnt_one {p : Mach.Loc -> Bool} {m : Nat -> Nat} {q : Nat} (hq : q < n) (h1 : p (s.loc q) = false) (h2 : p ((Mach.step live m s q).loc q) = true) : Mach.cnt (fun j => p ((Mach.step live m s q).loc j)) n = Mach.cnt (fun j => p (s.loc j)) n + 1 :=
 Mach.cnt_upd (p := fun j => p (s.loc j)) (q := fun j => p ((Mach.step live m s q).loc j)) h1 h2 hq fun j _ e => by show p _ = p _; rw [Mach.step_loc e]
theorem pick_rep (hb : Bd live n) (hs : Mach.Inv live n (mN live n) s) {W : AV} (hW : WRep live n s t W) (h1 : 1 <= t) (h2 : t + 1 <= 100000000) {k q : Nat} (hk : k < (opL n s).length) (hq : (opL n s).getD k 0 = n + q) :
  ∃ W', PurC 13 [W, i k] (.tup [W', i 0]) /\ WRep live n (Mach.step live (mN live n) s q) (t + 1) W' := by
 obtain ⟨ts, lg, hh, hD, rfl⟩ := hW
 obtain ⟨q', hqn, hd, hq'⟩ := opL_at hk
 have hqq : q' = q := by omega
 subst hqq
 have hT := hD.hts.tk q' hqn
 obtain ⟨T', e, hp, hr, he⟩ := step_rep hb hs hqn (N := ((t + 1 : Nat) : Int)) (by omega) (by omega) hd hT
 obtain ⟨fo, hfo, _, _, _, hTo⟩ := shape_open hT hd
 have hpw : PW n (n + q') k (dlOf n s) (setupA live) (arenaA live n s) ts fo lg hh (t : Nat) := ⟨hb.n6, hb.n1, dlOf_len n s, hk, hq.symm, ok_agg (cl_setup live), ok_arena live n s, hD.hts.ok, hfo, hTo, hD.hlg, ⟨_, Mach.cnt_le _ n, hD.hln⟩, hD.hhs, by rw [dl_len]; exact hD.hhn, by omega, by omega, hD.open hb⟩
 have hap := ok_arena live n (Mach.step live (mN live n) s q')
 have tmono := took_mono (live := live) (s := s) (m := mN live n) (q := q')
 cases hd' : Mach.isDone ((Mach.step live (mN live n) s q').loc q') with
 | true =>
  have ht0 := done_took hd'
  have ht1 := tmono ht0
  obtain ⟨c, k', j, hl'⟩ : ∃ c k' j, (Mach.step live (mN live n) s q').loc q' = .done c k' j := by
   cases hl : (Mach.step live (mN live n) s q').loc q' with
   | done c k' j => exact ⟨c, k', j, rfl⟩
   | _ => rw [hl] at hd'; cases hd'
  have hr' := hr
  rw [hl'] at hr'
  have hsh := shape_done hr'
  have hok := shape_ok hsh ok_res
  obtain ⟨fn, hfn, _, hTn⟩ := hsh
  unfold EvOk at he
  rw [if_pos (by rw [ht0, ht1])] at he
  subst he
  rw [hTn] at hp
  have htok : Ok1 (tokA (idN live n c j) c) 0 := ⟨nrf_sv, (show Cl (tokA (idN live n c j) c) from Cl.sv (cl_map (fun _ => ⟨rfl, rfl⟩) _)).ntg, fun e => (by cases e), fun _ e => (by cases e), rfl⟩
  have hr2 : Ok1 (.sv [.str [109]] false) 0 := ⟨nrf_sv, (Cl.sv (cl_cons .str cl_nil)).ntg, fun e => (by cases e), fun _ e => (by cases e), rfl⟩
  refine ⟨_, hpw.last hap htok hr2 hfn hp, ?_⟩
  refine ⟨up ts (n + q') T', lg, hh ++ [tokA (idN live n c j) c], ⟨hD.hts.step (m := mN live n) hs hqn hr hok, hD.hlg, ?_, ?_, ?_⟩, ?_⟩
  ·rw [cnt_same (p := took) (by rw [ht0, ht1])]; exact hD.hln
  ·intro x hx
   rcases List.mem_append.1 hx with hx | hx
   ·exact hD.hhs x hx
   ·rw [List.mem_singleton.1 hx]; exact htok
  ·rw [List.length_append, cnt_one (p := Mach.isDone) hqn hd hd', hD.hhn]; rfl
  ·rw [hTn]; rfl
 | false =>
  have hop := shape_open hr hd'
  have hok := shape_ok hop.shape ok_sn
  obtain ⟨fn, hfn, _, _, _, hTn⟩ := hop
  have hcd := cnt_same (live := live) (n := n) (s := s) (p := Mach.isDone) (m := mN live n) (q := q') (by rw [hd, hd'])
  unfold EvOk at he
  split at he
  ·rename_i ht
   subst he
   rw [hTn] at hp
   refine ⟨_, hpw.plain hap hfn hp, ?_⟩
   refine ⟨up ts (n + q') T', lg, hh, ⟨hD.hts.step (m := mN live n) hs hqn hr hok, hD.hlg, ?_, hD.hhs, ?_⟩, ?_⟩
   ·rw [cnt_same (p := took) ht.symm]; exact hD.hln
   ·rw [hcd]; exact hD.hhn
   ·rw [hTn]; rfl
  ·rename_i ht
   obtain ⟨x, hx, rfl⟩ := he
   rw [hTn] at hp
   have ht0 : took (s.loc q') = false := by
    cases e : took (s.loc q') with
    | false => rfl
    | true => exact absurd (by rw [tmono e, e]) ht
   have ht1 : took ((Mach.step live (mN live n) s q').loc q') = true := by
    cases e : took ((Mach.step live (mN live n) s q').loc q') with
    | true => rfl
    | false => exact absurd (by rw [ht0, e]) ht
   refine ⟨_, hpw.event hap hx hfn hp, ?_⟩
   refine ⟨up ts (n + q') T', lg ++ [x], hh, ⟨hD.hts.step (m := mN live n) hs hqn hr hok, ?_, ?_, hD.hhs, ?_⟩, ?_⟩
   ·intro y hy
    rcases List.mem_append.1 hy with hy | hy
    ·exact hD.hlg y hy
    ·rw [List.mem_singleton.1 hy]; exact hx
   ·rw [List.length_append, cnt_one (p := took) hqn ht0 ht1, hD.hln]; rfl
   ·rw [hcd]; exact hD.hhn
   ·rw [hTn]; rfl
end
end Go.Proofs.YtgaghaggiblabaaGreatDoor.Ev.T
