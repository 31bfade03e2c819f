/- The worlds while the receives are invoked; the first Finish. No condition. -/
import Derived.Test.YtgaghaggiblabaaGreatDoorCoh
import Derived.Test.YtgaghaggiblabaaGreatDoorPig
import Derived.Test.YtgaghaggiblabaaGreatDoorPie
import Derived.Test.YtgaghaggiblabaaGreatDoorPfa
import Derived.Test.YtgaghaggiblabaaGreatDoorPfb
import Derived.Test.YtgaghaggiblabaaGreatDoorPfc
import Derived.Test.YtgaghaggiblabaaGreatDoorPfd
import Derived.Test.YtgaghaggiblabaaGreatDoorPfe
import Derived.Test.YtgaghaggiblabaaGreatDoorPff
import Derived.Test.YtgaghaggiblabaaGreatDoorPfg
import Derived.Test.YtgaghaggiblabaaGreatDoorPfh
set_option linter.all false
namespace Go.Proofs.YtgaghaggiblabaaGreatDoor.Ev.T
open Go Go.RowKit
open Mach (S up nxt)
def homeAt (hs : List Nat) (q : Nat) : Nat := hs.reverse.getD q 0
theorem homeAt_lt {d q : Nat} {hs : List Nat} (h : q < hs.length) : homeAt (d :: hs) q = homeAt hs q := by
 unfold homeAt
 rw [List.reverse_cons, List.getD_eq_getElem?_getD, List.getD_eq_getElem?_getD, List.getElem?_append_left (by rw [List.length_reverse]; exact h)]
theorem homeAt_len {d : Nat} {hs : List Nat} : homeAt (d :: hs) hs.length = d := by
 unfold homeAt
 rw [List.reverse_cons, List.getD_eq_getElem?_getD, List.getElem?_append_right (by rw [List.length_reverse]; exact Nat.le_refl _), List.length_reverse, Nat.sub_self]
 rfl
theorem homeAt_3 {hs : List Nat} (h : ∀ d, d ∈ hs -> d < 3) (q : Nat) : homeAt hs q < 3 := by
 unfold homeAt
 rw [List.getD_eq_getElem?_getD]
 by_cases hq : q < hs.reverse.length
 ·rw [List.getElem?_eq_getElem hq]
  exact h _ (List.mem_reverse.1 (List.getElem_mem hq))
 ·rw [List.getElem?_eq_none (by omega)]; exact Nat.zero_lt_succ 2
def sR (hs : List Nat) : S := { s00 with loc := fun q => .start (homeAt hs q) }
noncomputable def tsR (live n : Nat) (hs : List Nat) (j : Nat) : AV := if j < n then (sendsA live n).getD j (dfl 77) else tkRA live (j + 1) (homeAt hs (j - n)) (i (stepsN live n))
noncomputable def wRr (live n : Nat) (hs : List Nat) : AV := wA (setupA live) (arenaA live n s00) ((List.range (n + hs.length)).map (tsR live n hs)) (.sv (log1A live n) false) (i (stepsN live n)) .sn
theorem sendsA_len (live n : Nat) : (sendsA live n).length = n := by unfold sendsA; rw [List.length_map, List.length_range]
theorem wRr_nil (live n : Nat) : wRr live n [] = w1A live n := by
 unfold wRr w1A wA
 congr 4
 show AV.sv ((List.range n).map (tsR live n [])) false = AV.sv (sendsA live n) false
 congr 1
 have := map_getD (sendsA live n) (dfl 77)
 rw [sendsA_len] at this
 refine Eq.trans (List.map_congr_left fun j hj => ?_) this
 unfold tsR
 rw [if_pos (List.mem_range.1 hj)]
theorem tshape_mk {num : Nat} {d : Bool} {res a1 a2 a4 a5 a6 a8 a9 a10 a11 a12 a13 a14 a15 a16 a17 : AV} (h1 : Ok1 a1 54) (h2 : Ok1 a2 0) (h4 : Ok1 a4 0) (h5 : Ok1 a5 0) (h6 : Ok1 a6 0) (h8 : Ok1 a8 28) (h9 : Ok1 a9 71) (h10 : Ok1 a10 38) (h11 : Ok1 a11 73) (h12 : Ok1 a12 0) (h13 : Ok1 a13 0) (h14 : Ok1 a14 75) (h15 : Ok1 a15 0) (h16 : Ok1 a16 0) (h17 : Ok1 a17 0) :
  TShape num d res (.agg 76 [i num, a1, a2, .bool d, a4, a5, a6, res, a8, a9, a10, a11, a12, a13, a14, a15, a16, a17]) := by
 refine ⟨fun k => match k with | 0 => i num | 1 => a1 | 2 => a2 | 4 => a4 | 5 => a5 | 6 => a6 | 8 => a8 | 9 => a9 | 10 => a10 | 11 => a11 | 12 => a12 | 13 => a13 | 14 => a14 | 15 => a15 | 16 => a16 | 17 => a17 | _ => i 0, fun k => ?_, rfl, rfl⟩
 match k with
 | 0 => exact ok_i
 | 1 => exact h1
 | 2 => exact h2
 | 3 => exact ok_i
 | 4 => exact h4
 | 5 => exact h5
 | 6 => exact h6
 | 7 => exact ok_i
 | 8 => exact h8
 | 9 => exact h9
 | 10 => exact h10
 | 11 => exact h11
 | 12 => exact h12
 | 13 => exact h13
 | 14 => exact h14
 | 15 => exact h15
 | 16 => exact h16
 | 17 => exact h17
 | k + 18 => exact ok_i
theorem cl_invSA : Cl invSA := .agg (cl_cons .i (cl_cons .i (cl_cons .i (cl_cons .i (cl_cons .i (cl_cons .i (cl_cons (.sv (cl_cons .str cl_nil)) (cl_cons .sn cl_nil))))))))
theorem shape_tkR (live num h : Nat) {v : AV} (hv : Ok1 v 0) : TShape num false .sn (tkRA live num h v) :=
 tshape_mk (ok_agg (t := 53) (cl_invR h)) hv ok_i ok_i ok_i (ok_agg (t := 27) (cl_setup live)) (ok_agg (t := 70) cl_secZ) (ok_agg (t := 37) cl_y37) (ok_agg cl_i2) ok_i ok_i (ok_agg cl_i4) ok_i ok_sn ok_sn
theorem ok_resS (k : Nat) : Ok1 (.sv [.agg 78 [i 0, i k, .sn, .sn, i 0, i 0, i 0]] false) 0 :=
 ⟨nrf_sv, (Cl.sv (cl_cons (.agg (cl_cons .i (cl_cons .i (cl_cons .sn (cl_cons .sn (cl_cons .i (cl_cons .i (cl_cons .i cl_nil)))))))) cl_nil)).ntg, fun e => (by cases e), fun _ e => (by cases e), rfl⟩
theorem shape_tkS (live k e : Nat) : TShape (k + 1) true (.sv [.agg 78 [i 0, i (k + 1 : Nat), .sn, .sn, i 0, i 0, i 0]] false) (tkSA live k true e 1 (.sv [.agg 78 [i 0, i (k + 1 : Nat), .sn, .sn, i 0, i 0, i 0]] false)) :=
 tshape_mk (ok_agg (t := 53) cl_invSA) ok_i ok_i ok_i ok_i (ok_agg (t := 27) (cl_setup live)) (ok_agg (t := 70) cl_secZ) (ok_agg (t := 37) cl_y37) (ok_agg cl_i2) ok_i ok_i (ok_agg cl_i4) ok_i ok_sn ok_sn
theorem sends_at {live n j : Nat} (hj : j < n) : (sendsA live n).getD j (dfl 77) = tkSA live j true ((endedN live n).getD j 0) 1 (.sv [.agg 78 [i 0, i (j + 1 : Nat), .sn, .sn, i 0, i 0, i 0]] false) := by
 unfold sendsA
 rw [List.getD_eq_getElem?_getD, List.getElem?_map, List.getElem?_range hj]
 rfl
theorem shape_tsR (live n : Nat) (hs : List Nat) (j : Nat) : ∃ res, Ok1 res 0 /\ TShape (j + 1) (Nat.blt j n) res (tsR live n hs j) := by
 unfold tsR
 by_cases h : j < n
 ·rw [if_pos h, sends_at h, blt_t h]
  exact ⟨_, ok_resS _, shape_tkS _ _ _⟩
 ·rw [if_neg h, blt_f (by omega)]
  exact ⟨_, ok_sn, shape_tkR _ _ _ ok_i⟩
theorem ok_tsR (live n : Nat) (hs : List Nat) (j : Nat) : Ok1 (tsR live n hs j) 77 := by
 obtain ⟨res, h1, h2⟩ := shape_tsR live n hs j
 exact shape_ok h2 h1
theorem ok_log1 (live n : Nat) : ∀ x, x ∈ log1A live n -> Ok1 x 99 := fun x hx => by
 obtain ⟨p, _, rfl⟩ := List.mem_map.1 hx
 exact ok_agg (t := 98) (.agg (cl_cons .i (cl_cons .i (cl_cons .i (cl_cons .i (cl_cons .i (cl_cons .i (cl_cons .i (cl_cons (.sv (cl_cons (.agg (cl_cons .i (cl_cons .i (cl_cons .i (cl_cons .i cl_nil))))) cl_nil)) (cl_cons .i (cl_cons .i cl_nil)))))))))))
theorem ok_wR (live n : Nat) (hs : List Nat) : Ok1 (wRr live n hs) 45 :=
 ok_agg (t := 44) (.agg (cl_cons (cl_setup live) (cl_cons (.of (ok_arena live n s00)) (cl_cons (.sv (cl_map (fun j => .of (ok_tsR live n hs j)) _)) (cl_cons (.sv fun x hx => .of (ok_log1 live n x hx)) (cl_cons .i (cl_cons .sn cl_nil)))))))
theorem ok_w1 (live n : Nat) : Ok1 (w1A live n) 45 := by rw [<- wRr_nil]; exact ok_wR live n []
theorem ok_ws (live j : Nat) : Ok1 (wsA live j) 45 :=
 ok_agg (t := 44) (.agg (cl_cons (cl_setup live) (cl_cons (.of (ok_arena live 0 s00)) (cl_cons (.sln (cl_map (fun k => .agg (cl_cons .i (cl_cons cl_invSA (cl_cons .i (cl_cons .b (cl_cons .i (cl_cons .i (cl_cons .i (cl_cons .sn (cl_cons (cl_setup live) (cl_cons cl_secZ (cl_cons cl_y37 (cl_cons cl_i2 (cl_cons .i (cl_cons .i (cl_cons cl_i4 (cl_cons .i (cl_cons .sn (cl_cons .sn cl_nil))))))))))))))))))) _)) (cl_cons .sn (cl_cons .i (cl_cons .sn cl_nil)))))))
section
variable {live n : Nat}
theorem allInvR_ok (hb : Bd live n) : allInvR live n = true := pick3 (p := fun a b => allInvR a b = true) allInvR_1_1 allInvR_1_2 allInvR_1_3 allInvR_1_4 allInvR_1_5 allInvR_1_6 allInvR_2_1 allInvR_2_2 allInvR_2_3 allInvR_2_4 allInvR_2_5 allInvR_2_6 allInvR_3_1 allInvR_3_2 allInvR_3_3 allInvR_3_4 allInvR_3_5 allInvR_3_6 hb.l1 hb.l3 hb.n1 hb.n6
theorem inv_r (hb : Bd live n) {hs : List Nat} {d : Nat} (hr : hs.length < n) (hd : d < 3) : PurC 8 [wRr live n hs, invRA d] (.tup [wRr live n (d :: hs), i (n + hs.length + 1 : Nat), i 0]) := by
 obtain ⟨F, h1, _, h2⟩ : ∃ F : Nat -> Nat -> AV, (∀ j k, Ok1 (F j k) (fc k)) /\ True /\ (List.range (n + hs.length)).map (tsR live n hs) = tksF (n + hs.length) F fun j => Nat.blt j n := by
  have h' : ∀ j, ∃ f : Nat -> AV, (∀ k, Ok1 (f k) (fc k)) /\ tsR live n hs j = tkF' f (Nat.blt j n) (f 7) := fun j => by
   obtain ⟨res, hr, f, hf, _, e⟩ := shape_tsR live n hs j
   exact ⟨up f 7 res, ok_up hf (j := 7) hr, by rw [e]; rfl⟩
  exact ⟨fun j => Classical.choose (h' j), fun j => (Classical.choose_spec (h' j)).1, trivial, List.map_congr_left fun j _ => (Classical.choose_spec (h' j)).2⟩
 have hc : cInvR live n hs.length d = true := all_r (all_r (allInvR_ok hb) hr) hd
 have key := pur_invoke (lg := .sv (log1A live n) false) (hs := .sn) (a := arenaA live n s00) hc (ok_arena live n s00) (ok_svl (ok_log1 live n)) ok_sn h1
 rw [<- h2] at key
 have e : (List.range (n + hs.length)).map (tsR live n hs) ++ [tkRA live (n + hs.length + 1) d (i (stepsN live n))] = (List.range (n + (d :: hs).length)).map (tsR live n (d :: hs)) := by
  rw [List.length_cons, show n + (hs.length + 1) = n + hs.length + 1 by omega, List.range_succ, List.map_append]
  congr 1
  ·refine List.map_congr_left fun j hj => ?_
   have hj := List.mem_range.1 hj
   unfold tsR
   split
   ·rfl
   ·rw [homeAt_lt (by omega)]
  ·show _ = [tsR live n (d :: hs) (n + hs.length)]
   unfold tsR
   rw [if_neg (by omega), show n + hs.length - n = hs.length by omega, homeAt_len]
 rw [e] at key
 exact key
theorem rep_start {num h : Nat} {vis : Nat -> Nat} {v : AV} (hv : Ok1 v 0) : TaskRep live n vis num (.start h) (tkRA live num h v) := by
 refine ⟨up (up (up (up (up (up (up (up (up (up (up (up (up (up (up (up (fun k => dfl (cd k)) 10 v) 12 (i 0)) 13 (i 0)) 14 .sn) 15 .sn) 16 (i 0)) 20 y37) 21 (.agg 72 [i 0, i 0])) 22 (i 0)) 23 (i 0)) 24 (.agg 74 [i 0, i 0, i 0, i 0])) 25 (i 0)) 26 .sn) 27 .sn) 30 secZ) 41 (i live), fun _ => (num : Int), ?_, rfl, trivial, ?_⟩
 ·exact gt_up (gt_up (gt_up (gt_up (gt_up (gt_up (gt_up (gt_up (gt_up (gt_up (gt_up (gt_up (gt_up (gt_up (gt_up (gt_up (fun k => ok_dfl _) (show Ok1 _ 0 from hv)) (show Ok1 _ 0 from ok_i)) (show Ok1 _ 0 from ok_i)) (show Ok1 _ 0 from ok_sn)) (show Ok1 _ 0 from ok_sn)) (show Ok1 _ 0 from ok_i)) (show Ok1 _ 38 from ok_agg cl_y37)) (show Ok1 _ 73 from ok_agg cl_i2)) (show Ok1 _ 0 from ok_i)) (show Ok1 _ 0 from ok_i)) (show Ok1 _ 75 from ok_agg cl_i4)) (show Ok1 _ 0 from ok_i)) (show Ok1 _ 0 from ok_sn)) (show Ok1 _ 0 from ok_sn)) (show Ok1 _ 71 from ok_agg cl_secZ)) (show Ok1 _ 0 from ok_i)
 ·show _ = inst _ _ (tkP (i h) 0 (.ob 30 71) od ow (.ob 22 0))
  unfold tkP invP stpP od ow
  simp only [inst_agg, instL_cons, instL_nil, inst_ob, inst_cn, inst_i, inst_b, inst_sn]
  rfl
theorem rep_r (hb : Bd live n) {hs : List Nat} (hr : hs.length = n) (h3 : ∀ d, d ∈ hs -> d < 3) : Mach.Inv live n (mN live n) (sR hs) /\ WRep live n (sR hs) (stepsN live n) (wRr live n hs) := by
 refine ⟨Mach.Inv.start (fun q _ => ⟨homeAt hs q, homeAt_3 h3 q, rfl⟩) (fun _ => rfl) (fun _ => rfl) (fun _ => rfl), tsR live n hs, log1A live n, [], ⟨⟨ok_tsR live n hs, fun j hj => ?_, fun q hq => ?_⟩, ok_log1 live n, ?_, fun x hx => (by cases hx), ?_⟩, ?_⟩
 ·obtain ⟨res, h1, h2⟩ := shape_tsR live n hs j
  rw [blt_t hj] at h2
  exact ⟨res, h1, h2⟩
 ·show TaskRep live n _ (n + q + 1) (.start (homeAt hs q)) (tsR live n hs (n + q))
  unfold tsR
  rw [if_neg (by omega), show n + q - n = q by omega]
  exact rep_start ok_i
 ·have : ∀ m, Mach.cnt (fun j => took ((sR hs).loc j)) m = 0 := fun m => by
   induction m with
   | zero => rfl
   | succ m ih => show Mach.cnt _ m + _ = 0; rw [ih]; rfl
  rw [this]
  unfold log1A
  rw [List.length_map]
  exact pick3 (p := fun a b => (evN a b).length = b + 0) rfl rfl rfl rfl rfl rfl rfl rfl rfl rfl rfl rfl rfl rfl rfl rfl rfl rfl hb.l1 hb.l3 hb.n1 hb.n6
 ·have : ∀ m, Mach.cnt (fun j => Mach.isDone ((sR hs).loc j)) m = 0 := fun m => by
   induction m with
   | zero => rfl
   | succ m ih => show Mach.cnt _ m + _ = 0; rw [ih]; rfl
  rw [this]; rfl
 ·unfold wRr wW
  rw [hr]; rfl
end
end Go.Proofs.YtgaghaggiblabaaGreatDoor.Ev.T
namespace Go.Proofs.YtgaghaggiblabaaGreatDoor.Ev.T
open Go Go.RowKit
theorem ch_cut {pl : List (List Nat × Nat)} {W Wm We : AV} {a : Nat} (h1 : Ch W (pl.take a) Wm) (h2 : Ch Wm (pl.drop a) We) : Ch W pl We := by
 have := h1.app h2
 rwa [List.take_append_drop] at this
theorem drop_take {pl : List (List Nat × Nat)} {a b : Nat} : (pl.drop a).drop b = pl.drop (a + b) := by rw [List.drop_drop]
theorem ch1_1 : Ch (wsA 1 1) (planS 1 1) (w1A 1 1) := by
 have h0 : Ch (wsA 1 1) ((planS 1 1).drop 0) (w1A 1 1) := by
  have := chk_ok pf1_1_0 (by decide) (ok_w1 _ _)
  rwa [List.take_of_length_le (by decide)] at this
 exact h0
theorem ch1_2 : Ch (wsA 1 2) (planS 1 2) (w1A 1 2) := by
 have h0 : Ch (wsA 1 2) ((planS 1 2).drop 0) (w1A 1 2) := by
  have := chk_ok pf1_2_0 (by decide) (ok_w1 _ _)
  rwa [List.take_of_length_le (by decide)] at this
 exact h0
theorem ch1_3 : Ch (wsA 1 3) (planS 1 3) (w1A 1 3) := by
 have h1 : Ch bw1_3_47 ((planS 1 3).drop 47) (w1A 1 3) := by
  have := chk_ok pf1_3_47 (by decide) (ok_w1 _ _)
  rwa [List.take_of_length_le (by decide)] at this
 have h0 : Ch (wsA 1 3) ((planS 1 3).drop 0) (w1A 1 3) := by
  have := chk_ok pf1_3_0 (by decide) (ok_q (by kernel_rfl))
  exact ch_cut this (by rw [drop_take]; exact h1)
 exact h0
theorem ch1_4 : Ch (wsA 1 4) (planS 1 4) (w1A 1 4) := by
 have h1 : Ch bw1_4_71 ((planS 1 4).drop 71) (w1A 1 4) := by
  have := chk_ok pf1_4_71 (by decide) (ok_w1 _ _)
  rwa [List.take_of_length_le (by decide)] at this
 have h0 : Ch (wsA 1 4) ((planS 1 4).drop 0) (w1A 1 4) := by
  have := chk_ok pf1_4_0 (by decide) (ok_q (by kernel_rfl))
  exact ch_cut this (by rw [drop_take]; exact h1)
 exact h0
theorem ch1_5 : Ch (wsA 1 5) (planS 1 5) (w1A 1 5) := by
 have h2 : Ch bw1_5_125 ((planS 1 5).drop 125) (w1A 1 5) := by
  have := chk_ok pf1_5_125 (by decide) (ok_w1 _ _)
  rwa [List.take_of_length_le (by decide)] at this
 have h1 : Ch bw1_5_77 ((planS 1 5).drop 77) (w1A 1 5) := by
  have := chk_ok pf1_5_77 (by decide) (ok_q (by kernel_rfl))
  exact ch_cut this (by rw [drop_take]; exact h2)
 have h0 : Ch (wsA 1 5) ((planS 1 5).drop 0) (w1A 1 5) := by
  have := chk_ok pf1_5_0 (by decide) (ok_q (by kernel_rfl))
  exact ch_cut this (by rw [drop_take]; exact h1)
 exact h0
theorem ch1_6 : Ch (wsA 1 6) (planS 1 6) (w1A 1 6) := by
 have h3 : Ch bw1_6_188 ((planS 1 6).drop 188) (w1A 1 6) := by
  have := chk_ok pf1_6_188 (by decide) (ok_w1 _ _)
  rwa [List.take_of_length_le (by decide)] at this
 have h2 : Ch bw1_6_144 ((planS 1 6).drop 144) (w1A 1 6) := by
  have := chk_ok pf1_6_144 (by decide) (ok_q (by kernel_rfl))
  exact ch_cut this (by rw [drop_take]; exact h3)
 have h1 : Ch bw1_6_82 ((planS 1 6).drop 82) (w1A 1 6) := by
  have := chk_ok pf1_6_82 (by decide) (ok_q (by kernel_rfl))
  exact ch_cut this (by rw [drop_take]; exact h2)
 have h0 : Ch (wsA 1 6) ((planS 1 6).drop 0) (w1A 1 6) := by
  have := chk_ok pf1_6_0 (by decide) (ok_q (by kernel_rfl))
  exact ch_cut this (by rw [drop_take]; exact h1)
 exact h0
theorem ch2_1 : Ch (wsA 2 1) (planS 2 1) (w1A 2 1) := by
 have h0 : Ch (wsA 2 1) ((planS 2 1).drop 0) (w1A 2 1) := by
  have := chk_ok pf2_1_0 (by decide) (ok_w1 _ _)
  rwa [List.take_of_length_le (by decide)] at this
 exact h0
theorem ch2_2 : Ch (wsA 2 2) (planS 2 2) (w1A 2 2) := by
 have h0 : Ch (wsA 2 2) ((planS 2 2).drop 0) (w1A 2 2) := by
  have := chk_ok pf2_2_0 (by decide) (ok_w1 _ _)
  rwa [List.take_of_length_le (by decide)] at this
 exact h0
theorem ch2_3 : Ch (wsA 2 3) (planS 2 3) (w1A 2 3) := by
 have h1 : Ch bw2_3_46 ((planS 2 3).drop 46) (w1A 2 3) := by
  have := chk_ok pf2_3_46 (by decide) (ok_w1 _ _)
  rwa [List.take_of_length_le (by decide)] at this
 have h0 : Ch (wsA 2 3) ((planS 2 3).drop 0) (w1A 2 3) := by
  have := chk_ok pf2_3_0 (by decide) (ok_q (by kernel_rfl))
  exact ch_cut this (by rw [drop_take]; exact h1)
 exact h0
theorem ch2_4 : Ch (wsA 2 4) (planS 2 4) (w1A 2 4) := by
 have h1 : Ch bw2_4_71 ((planS 2 4).drop 71) (w1A 2 4) := by
  have := chk_ok pf2_4_71 (by decide) (ok_w1 _ _)
  rwa [List.take_of_length_le (by decide)] at this
 have h0 : Ch (wsA 2 4) ((planS 2 4).drop 0) (w1A 2 4) := by
  have := chk_ok pf2_4_0 (by decide) (ok_q (by kernel_rfl))
  exact ch_cut this (by rw [drop_take]; exact h1)
 exact h0
theorem ch2_5 : Ch (wsA 2 5) (planS 2 5) (w1A 2 5) := by
 have h2 : Ch bw2_5_124 ((planS 2 5).drop 124) (w1A 2 5) := by
  have := chk_ok pf2_5_124 (by decide) (ok_w1 _ _)
  rwa [List.take_of_length_le (by decide)] at this
 have h1 : Ch bw2_5_76 ((planS 2 5).drop 76) (w1A 2 5) := by
  have := chk_ok pf2_5_76 (by decide) (ok_q (by kernel_rfl))
  exact ch_cut this (by rw [drop_take]; exact h2)
 have h0 : Ch (wsA 2 5) ((planS 2 5).drop 0) (w1A 2 5) := by
  have := chk_ok pf2_5_0 (by decide) (ok_q (by kernel_rfl))
  exact ch_cut this (by rw [drop_take]; exact h1)
 exact h0
theorem ch2_6 : Ch (wsA 2 6) (planS 2 6) (w1A 2 6) := by
 have h3 : Ch bw2_6_188 ((planS 2 6).drop 188) (w1A 2 6) := by
  have := chk_ok pf2_6_188 (by decide) (ok_w1 _ _)
  rwa [List.take_of_length_le (by decide)] at this
 have h2 : Ch bw2_6_144 ((planS 2 6).drop 144) (w1A 2 6) := by
  have := chk_ok pf2_6_144 (by decide) (ok_q (by kernel_rfl))
  exact ch_cut this (by rw [drop_take]; exact h3)
 have h1 : Ch bw2_6_80 ((planS 2 6).drop 80) (w1A 2 6) := by
  have := chk_ok pf2_6_80 (by decide) (ok_q (by kernel_rfl))
  exact ch_cut this (by rw [drop_take]; exact h2)
 have h0 : Ch (wsA 2 6) ((planS 2 6).drop 0) (w1A 2 6) := by
  have := chk_ok pf2_6_0 (by decide) (ok_q (by kernel_rfl))
  exact ch_cut this (by rw [drop_take]; exact h1)
 exact h0
theorem ch3_1 : Ch (wsA 3 1) (planS 3 1) (w1A 3 1) := by
 have h0 : Ch (wsA 3 1) ((planS 3 1).drop 0) (w1A 3 1) := by
  have := chk_ok pf3_1_0 (by decide) (ok_w1 _ _)
  rwa [List.take_of_length_le (by decide)] at this
 exact h0
theorem ch3_2 : Ch (wsA 3 2) (planS 3 2) (w1A 3 2) := by
 have h0 : Ch (wsA 3 2) ((planS 3 2).drop 0) (w1A 3 2) := by
  have := chk_ok pf3_2_0 (by decide) (ok_w1 _ _)
  rwa [List.take_of_length_le (by decide)] at this
 exact h0
theorem ch3_3 : Ch (wsA 3 3) (planS 3 3) (w1A 3 3) := by
 have h1 : Ch bw3_3_46 ((planS 3 3).drop 46) (w1A 3 3) := by
  have := chk_ok pf3_3_46 (by decide) (ok_w1 _ _)
  rwa [List.take_of_length_le (by decide)] at this
 have h0 : Ch (wsA 3 3) ((planS 3 3).drop 0) (w1A 3 3) := by
  have := chk_ok pf3_3_0 (by decide) (ok_q (by kernel_rfl))
  exact ch_cut this (by rw [drop_take]; exact h1)
 exact h0
theorem ch3_4 : Ch (wsA 3 4) (planS 3 4) (w1A 3 4) := by
 have h1 : Ch bw3_4_61 ((planS 3 4).drop 61) (w1A 3 4) := by
  have := chk_ok pf3_4_61 (by decide) (ok_w1 _ _)
  rwa [List.take_of_length_le (by decide)] at this
 have h0 : Ch (wsA 3 4) ((planS 3 4).drop 0) (w1A 3 4) := by
  have := chk_ok pf3_4_0 (by decide) (ok_q (by kernel_rfl))
  exact ch_cut this (by rw [drop_take]; exact h1)
 exact h0
theorem ch3_5 : Ch (wsA 3 5) (planS 3 5) (w1A 3 5) := by
 have h2 : Ch bw3_5_101 ((planS 3 5).drop 101) (w1A 3 5) := by
  have := chk_ok pf3_5_101 (by decide) (ok_w1 _ _)
  rwa [List.take_of_length_le (by decide)] at this
 have h1 : Ch bw3_5_60 ((planS 3 5).drop 60) (w1A 3 5) := by
  have := chk_ok pf3_5_60 (by decide) (ok_q (by kernel_rfl))
  exact ch_cut this (by rw [drop_take]; exact h2)
 have h0 : Ch (wsA 3 5) ((planS 3 5).drop 0) (w1A 3 5) := by
  have := chk_ok pf3_5_0 (by decide) (ok_q (by kernel_rfl))
  exact ch_cut this (by rw [drop_take]; exact h1)
 exact h0
theorem ch3_6 : Ch (wsA 3 6) (planS 3 6) (w1A 3 6) := by
 have h2 : Ch bw3_6_140 ((planS 3 6).drop 140) (w1A 3 6) := by
  have := chk_ok pf3_6_140 (by decide) (ok_w1 _ _)
  rwa [List.take_of_length_le (by decide)] at this
 have h1 : Ch bw3_6_87 ((planS 3 6).drop 87) (w1A 3 6) := by
  have := chk_ok pf3_6_87 (by decide) (ok_q (by kernel_rfl))
  exact ch_cut this (by rw [drop_take]; exact h2)
 have h0 : Ch (wsA 3 6) ((planS 3 6).drop 0) (w1A 3 6) := by
  have := chk_ok pf3_6_0 (by decide) (ok_q (by kernel_rfl))
  exact ch_cut this (by rw [drop_take]; exact h1)
 exact h0
end Go.Proofs.YtgaghaggiblabaaGreatDoor.Ev.T
