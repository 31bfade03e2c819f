/- TopContend evaluated, given what its calls give. No condition. -/
import Derived.Test.YtgaghaggiblabaaGreatDoorRdr
import Derived.Test.YtgaghaggiblabaaGreatDoorCob
import Derived.Test.YtgaghaggiblabaaGreatDoorCoe
set_option linter.all false
namespace Go.Proofs.YtgaghaggiblabaaGreatDoor.Ev.T
open Go Go.RowKit
section
variable {rec : Rec} {wm n : Nat} {T : Tm} {H : Hp} {K : Kv} {k : Kt}
theorem ds_k1 {d : Option Nat} {x : O} {i : I} {is : List D} {L : List (Nat × Nat)} {v : AV} {b o c : Nat} {p : List Nat} {ab : AB} (hx : ev T x = .ptr b o p c) (hb : hget b H = some ab) (h : ∀ f : Kv, evI i rec T n n [(b, ab)] f = f v n [(b, ab)]) :
  ds rec wm (.k none d false [x] [] i :: is) L T n H k = ds rec wm is ((n, n) :: L) (dput d v T) n ((b, ab) :: hdel b H) k := by
 have h1 : ∀ q : Hp -> Hp -> Out, hide T [x] H q = q [(b, ab)] (hdel b H) := by
  intro q
  show bof (ev T x) H (fun A H => q (happ A []) H) = _
  rw [hx]
  show bofb b H _ = _
  unfold bofb
  rw [hk_at hb]
 show hide T [x] H (fun B H => match evI i rec T n n B id3 with | some r => (Bool.rec none (ds rec wm is ((n, r.2.1) :: L) (dput d r.1 T) r.2.1 (happ r.2.2 (happ H [])) k) (okb false n r.2.1) : Out) | none => none) = _
 rw [h1, h]
 show (Bool.rec none (ds rec wm is ((n, n) :: L) (dput d v T) n (happ [(b, ab)] (happ (hdel b H) [])) k) (Nat.beq n n) : Out) = _
 rw [nbeq, decide_eq_true rfl, happ_nil]
 rfl
theorem ds_k2 {d : Option Nat} {x y : O} {i : I} {is : List D} {L : List (Nat × Nat)} {v : AV} {b o c b' o' c' : Nat} {p p' : List Nat} {ab ab' : AB} {H' : Hp} (hx : ev T x = .ptr b o p c) (hy : ev T y = .ptr b' o' p' c') (hb : hget b H = some ab) (hb' : hget b' H = some ab') (hne : b ≠ b') (h : ∀ f : Kv, evI i rec T wm n [(b, ab)] f = f v n H') :
  ds rec wm (.k none d true [x] [y] i :: is) L T n H k = ds rec wm is ((n, n) :: L) (dput d v T) n (happ H' (happ (hdel b (hdel b' H)) [(b', ab')])) k := by
 have h1 : ∀ q : Hp -> Hp -> Out, hide T [y] H q = q [(b', ab')] (hdel b' H) := by
  intro q
  show bof (ev T y) H (fun A H => q (happ A []) H) = _
  rw [hy]
  show bofb b' H _ = _
  unfold bofb
  rw [hk_at hb']
 have hg : hget b (hdel b' H) = some ab := by rw [hget_hdel, if_neg hne]; exact hb
 have h2 : ∀ q : Hp -> Hp -> Out, hide T [x] (hdel b' H) q = q [(b, ab)] (hdel b (hdel b' H)) := by
  intro q
  show bof (ev T x) (hdel b' H) (fun A H => q (happ A []) H) = _
  rw [hx]
  show bofb b (hdel b' H) _ = _
  unfold bofb
  rw [hk_at hg]
 show hide T [y] H (fun A H => hide T [x] H fun B H => match evI i rec T wm n B id3 with | some r => (Bool.rec none (ds rec wm is ((n, r.2.1) :: L) (dput d r.1 T) r.2.1 (happ r.2.2 (happ H A)) k) (okb true n r.2.1) : Out) | none => none) = _
 rw [h1, h2, h]
 rfl
end
section
variable {rec : Rec} {n : Nat} {T : Tm} {H : Hp} {w w' j m r live id c : Nat} {L : List Nat} {a Wf x : AV}
theorem ne0 : beqI 0 0 = true := rfl
theorem wrap2 (h : m <= 100000000) : wrap .i64 (Int.mul 2 (m : Int)) = ((2 * m : Nat) : Int) := by
 rw [wrap64 (m := Int.mul 2 (m : Int)) (by show 0 <= 2 * (m : Int); omega) (by show 2 * (m : Int) <= _; omega)]
 show 2 * (m : Int) = _
 omega
theorem beq_self (m : Nat) : beqI (m : Int) (m : Int) = true := by rw [beqI_eq]; exact beq_self_eq_true _
theorem frz_b {b : Nat} {K : AV -> Hp -> Out} (hb : hget b H = some (.row [.str [109]] false)) : frz 0 H (.sr b 0 1 1 false 0) K = K (.sv [.str [109]] true) (hdel b H) := by
 show (Bool.rec none (hk b H fun ab => fzr (fz 0 [] 60 true) 0 1 1 false ab fun v => K v (hdel b H)) (Nat.ble 0 b) : Out) = _
 rw [hk_at hb, nble, decide_eq_true (Nat.zero_le b)]
 rfl
theorem x3_0  : ∃ T', (∀ kn kx kr, code rec 0 r3_0 T n H kn kx kr = kn T' (n) (H)) /\ lk 2 T' = .bool false /\ ∀ q, q ∉ [2] -> lk q T' = lk q T := by
 apply Exists.intro
 refine ⟨fun kn kx kr => ?_, ?_, ?_⟩
 ·unfold r3_0; rw [code_rg]
  simp only [↓gs_o', ↓gs_nil', evI_mv, ev_t', ev_c', lk_cons, reduceIte, Nat.reduceEqDiff, brec_t]
  rfl
 ·rw [lk_outsT, if_pos (by decide)]; rfl
 ·intro q hq; rw [lk_outsT, if_neg hq]
theorem x3_1 (h0 : lk 0 T = a) {n' : Nat} {H' : Hp} (hc : rec 4 [a] 0 n H = some (.ptr 0 0 [] 85, n', H')) : ∃ T', (∀ kn kx kr, code rec 0 r3_1 T n H kn kx kr = kn T' (n') (H')) /\ lk 3 T' = .ptr 0 0 [] 85 /\ ∀ q, q ∉ [3] -> lk q T' = lk q T := by
 apply Exists.intro
 refine ⟨fun kn kx kr => ?_, ?_, ?_⟩
 ·unfold r3_1; rw [code_rg]
  simp only [↓gs_o', ↓gs_nil', evI_ca, evs_cons', evs_nil', evI_mv, ev_t', ev_c', lk_cons, keq64, brec_t, brec_f, and_t, and_f, not_t, not_f, nbeq, nble, decide_true, decide_false, reduceIte, Nat.reduceEqDiff, h0, call_at hc]
  rfl
 ·rw [lk_outsT, if_pos (by decide)]; rfl
 ·intro q hq; rw [lk_outsT, if_neg hq]
theorem x3_2 (h3 : lk 3 T = .ptr 0 0 [] 85) {H' : Hp} (hc : rec 5 [.ptr 0 0 [] 85, i 1, i 3] 0 n H = some (i live, n, H')) : ∃ T', (∀ kn kx kr, code rec 0 r3_2 T n H kn kx kr = kn T' (n + 1) ((n, .row [setupA live] false) :: H')) /\ lk 4 T' = .ptr n 0 [] 28 /\ ∀ q, q ∉ [4] -> lk q T' = lk q T := by
 apply Exists.intro
 refine ⟨fun kn kx kr => ?_, ?_, ?_⟩
 ·unfold r3_2; rw [code_rg]
  simp only [↓gs_o', ↓gs_nil', ↓gs_n', evI_al, evI_bl, eBl, nth0, nthS, lset0, evI_ca, evs_cons', evs_nil', evI_mv, evI_sa, eSa, wr_ptr, wrb_row, gp_nil, gp_agg, sp_nil, sp_agg, ev_t', ev_c', lk_cons, keq64, brec_t, brec_f, and_t, and_f, not_t, not_f, nbeq, nble, decide_true, decide_false, reduceIte, Nat.reduceEqDiff, h3, call_at hc, z27, qi, build_nil, build_cons, lsetS, like, lc, happ_eq, hk_at (hget_top n _ _), decide_eq_true (Nat.zero_le n), hset_top]
  rfl
 ·rw [lk_outsT, if_pos (by decide)]; rfl
 ·intro q hq; rw [lk_outsT, if_neg hq]
theorem x3_3 (h4 : lk 4 T = .ptr 1 0 [] 28) (b1 : hget 1 H = some (.row [setupA live] false)) (hc : rec 6 [setupA live] 0 n H = some (.tup [.ob w 45, i 0], n, H)) : ∃ T', (∀ kn kx kr, code rec 0 r3_3 T n H kn kx kr = kn T' (n + 1) ((n, .row [.ob w 45] false) :: H)) /\ lk 5 T' = .ptr n 0 [] 45 /\ lk 6 T' = i 0 /\ ∀ q, q ∉ [5, 6] -> lk q T' = lk q T := by
 apply Exists.intro
 refine ⟨fun kn kx kr => ?_, ?_, ?_, ?_⟩
 ·unfold r3_3; rw [code_rg]
  unfold setupA at hc b1
  simp only [↓gs_o', ↓gs_nil', ↓gs_n', evI_al, evI_ca, evs_cons', evs_nil', evI_ex, eEx, nth0, nthS, evI_la, eLa, rd_ptr, rd_pv, rdb_row, gp_nil, gp_agg, evI_mv, evI_sa, eSa, wr_ptr, wrb_row, sp_nil, sp_agg, lset0, ev_t', ev_c', lk_cons, keq64, brec_t, brec_f, and_t, and_f, not_t, not_f, nbeq, nble, decide_true, decide_false, reduceIte, Nat.reduceEqDiff, h4, hk_at b1, call_at hc, like, lc, z44, qi, hk_at (hget_top n _ _), decide_eq_true (Nat.zero_le n), hset_top]
  rfl
 ·rw [lk_outsT, if_pos (by decide)]; rfl
 ·rw [lk_outsT, if_pos (by decide)]; rfl
 ·intro q hq; rw [lk_outsT, if_neg hq]
theorem x3_4 (h6 : lk 6 T = i 0) (h4 : lk 4 T = .ptr 1 0 [] 28) (h5 : lk 5 T = .ptr 2 0 [] 45) (b1 : hget 1 H = some (.row [setupA live] false)) (b2 : hget 2 H = some (.row [.ob w 45] false)) (hc : rec 7 [.ob w 45, setupA live] 0 n H = some (.bool true, n, H)) : ∃ T', (∀ kn kx kr, code rec 0 r3_4 T n H kn kx kr = kn T' (n) (H)) /\ lk 36 T' = .bool false /\ ∀ q, q ∉ [36] -> lk q T' = lk q T := by
 apply Exists.intro
 refine ⟨fun kn kx kr => ?_, ?_, ?_⟩
 ·unfold r3_4; rw [code_rg]
  unfold setupA at hc b1
  simp only [↓gs_o', ↓gs_nil', ↓gs_gt, ↓gs_g0, ↓gs_g1, evI_ca, evs_cons', evs_nil', evI_la, eLa, rd_ptr, rd_pv, rdb_row, nth0, nthS, gp_nil, gp_agg, evI_mv, evI_ne, eNe, eqv_i, evI_nt, eNt, evI_pk, ePk, ev_t', ev_c', lk_cons, keq64, brec_t, brec_f, and_t, and_f, not_t, not_f, nbeq, nble, decide_true, decide_false, reduceIte, Nat.reduceEqDiff, h6, h4, h5, hk_at b1, hk_at b2, ne0, call_at hc]
  rfl
 ·rw [lk_outsT, if_pos (by decide)]; rfl
 ·intro q hq; rw [lk_outsT, if_neg hq]
theorem x3_12 (h6 : lk 6 T = i 0) (h4 : lk 4 T = .ptr 1 0 [] 28) (h5 : lk 5 T = .ptr 2 0 [] 45) (b1 : hget 1 H = some (.row [setupA live] false)) (b2 : hget 2 H = some (.row [.ob w 45] false)) (hc : rec 7 [.ob w 45, setupA live] 0 n H = some (.bool true, n, H)) : ∃ T', (∀ kn kx kr, code rec 0 r3_12 T n H kn kx kr = kn T' (n) (H)) /\ lk 67 T' = .bool false /\ ∀ q, q ∉ [67] -> lk q T' = lk q T := by
 apply Exists.intro
 refine ⟨fun kn kx kr => ?_, ?_, ?_⟩
 ·unfold r3_12; rw [code_rg]
  unfold setupA at hc b1
  simp only [↓gs_o', ↓gs_nil', ↓gs_gt, ↓gs_g0, ↓gs_g1, evI_ca, evs_cons', evs_nil', evI_la, eLa, rd_ptr, rd_pv, rdb_row, nth0, nthS, gp_nil, gp_agg, evI_mv, evI_ne, eNe, eqv_i, evI_nt, eNt, evI_pk, ePk, ev_t', ev_c', lk_cons, keq64, brec_t, brec_f, and_t, and_f, not_t, not_f, nbeq, nble, decide_true, decide_false, reduceIte, Nat.reduceEqDiff, h6, h4, h5, hk_at b1, hk_at b2, ne0, call_at hc]
  rfl
 ·rw [lk_outsT, if_pos (by decide)]; rfl
 ·intro q hq; rw [lk_outsT, if_neg hq]
theorem x3_23 (h6 : lk 6 T = i 0) (h4 : lk 4 T = .ptr 1 0 [] 28) (h5 : lk 5 T = .ptr 2 0 [] 45) (b1 : hget 1 H = some (.row [setupA live] false)) (b2 : hget 2 H = some (.row [.ob w 45] false)) (hc : rec 7 [.ob w 45, setupA live] 0 n H = some (.bool true, n, H)) : ∃ T', (∀ kn kx kr, code rec 0 r3_23 T n H kn kx kr = kn T' (n) (H)) /\ lk 112 T' = .bool false /\ ∀ q, q ∉ [112] -> lk q T' = lk q T := by
 apply Exists.intro
 refine ⟨fun kn kx kr => ?_, ?_, ?_⟩
 ·unfold r3_23; rw [code_rg]
  unfold setupA at hc b1
  simp only [↓gs_o', ↓gs_nil', ↓gs_gt, ↓gs_g0, ↓gs_g1, evI_ca, evs_cons', evs_nil', evI_la, eLa, rd_ptr, rd_pv, rdb_row, nth0, nthS, gp_nil, gp_agg, evI_mv, evI_ne, eNe, eqv_i, evI_nt, eNt, evI_pk, ePk, ev_t', ev_c', lk_cons, keq64, brec_t, brec_f, and_t, and_f, not_t, not_f, nbeq, nble, decide_true, decide_false, reduceIte, Nat.reduceEqDiff, h6, h4, h5, hk_at b1, hk_at b2, ne0, call_at hc]
  rfl
 ·rw [lk_outsT, if_pos (by decide)]; rfl
 ·intro q hq; rw [lk_outsT, if_neg hq]
theorem x3_5 (h3 : lk 3 T = .ptr 0 0 [] 85) {H' : Hp} (hc : rec 5 [.ptr 0 0 [] 85, i 1, i 6] 0 n H = some (i m, n, H')) : ∃ T', (∀ kn kx kr, code rec 0 r3_5 T n H kn kx kr = kn T' (n) (H')) /\ lk 7 T' = i m /\ ∀ q, q ∉ [7] -> lk q T' = lk q T := by
 apply Exists.intro
 refine ⟨fun kn kx kr => ?_, ?_, ?_⟩
 ·unfold r3_5; rw [code_rg]
  simp only [↓gs_o', ↓gs_nil', evI_ca, evs_cons', evs_nil', evI_mv, ev_t', ev_c', lk_cons, keq64, brec_t, brec_f, and_t, and_f, not_t, not_f, nbeq, nble, decide_true, decide_false, reduceIte, Nat.reduceEqDiff, h3, call_at hc]
  rfl
 ·rw [lk_outsT, if_pos (by decide)]; rfl
 ·intro q hq; rw [lk_outsT, if_neg hq]
theorem x3_6  : ∃ T', (∀ kn kx kr, code rec 0 r3_6 T n H kn kx kr = kn T' (n) (H)) /\ lk 8 T' = i 0 /\ ∀ q, q ∉ [8] -> lk q T' = lk q T := by
 apply Exists.intro
 refine ⟨fun kn kx kr => ?_, ?_, ?_⟩
 ·unfold r3_6; rw [code_rg]
  simp only [↓gs_o', ↓gs_nil', evI_mv, ev_t', ev_c', lk_cons, reduceIte, Nat.reduceEqDiff, brec_t]
  rfl
 ·rw [lk_outsT, if_pos (by decide)]; rfl
 ·intro q hq; rw [lk_outsT, if_neg hq]
theorem x3_13  : ∃ T', (∀ kn kx kr, code rec 0 r3_13 T n H kn kx kr = kn T' (n) (H)) /\ lk 9 T' = i 0 /\ ∀ q, q ∉ [9] -> lk q T' = lk q T := by
 apply Exists.intro
 refine ⟨fun kn kx kr => ?_, ?_, ?_⟩
 ·unfold r3_13; rw [code_rg]
  simp only [↓gs_o', ↓gs_nil', evI_mv, ev_t', ev_c', lk_cons, reduceIte, Nat.reduceEqDiff, brec_t]
  rfl
 ·rw [lk_outsT, if_pos (by decide)]; rfl
 ·intro q hq; rw [lk_outsT, if_neg hq]
theorem x3_18  : ∃ T', (∀ kn kx kr, code rec 0 r3_18 T n H kn kx kr = kn T' (n) (H)) /\ lk 10 T' = i 0 /\ ∀ q, q ∉ [10] -> lk q T' = lk q T := by
 apply Exists.intro
 refine ⟨fun kn kx kr => ?_, ?_, ?_⟩
 ·unfold r3_18; rw [code_rg]
  simp only [↓gs_o', ↓gs_nil', evI_mv, ev_t', ev_c', lk_cons, reduceIte, Nat.reduceEqDiff, brec_t]
  rfl
 ·rw [lk_outsT, if_pos (by decide)]; rfl
 ·intro q hq; rw [lk_outsT, if_neg hq]
theorem x3_28  : ∃ T', (∀ kn kx kr, code rec 0 r3_28 T n H kn kx kr = kn T' (n) (H)) /\ lk 13 T' = i 0 /\ ∀ q, q ∉ [13] -> lk q T' = lk q T := by
 apply Exists.intro
 refine ⟨fun kn kx kr => ?_, ?_, ?_⟩
 ·unfold r3_28; rw [code_rg]
  simp only [↓gs_o', ↓gs_nil', evI_mv, ev_t', ev_c', lk_cons, reduceIte, Nat.reduceEqDiff, brec_t]
  rfl
 ·rw [lk_outsT, if_pos (by decide)]; rfl
 ·intro q hq; rw [lk_outsT, if_neg hq]
theorem x3_33  : ∃ T', (∀ kn kx kr, code rec 0 r3_33 T n H kn kx kr = kn T' (n) (H)) /\ lk 16 T' = i 0 /\ ∀ q, q ∉ [16] -> lk q T' = lk q T := by
 apply Exists.intro
 refine ⟨fun kn kx kr => ?_, ?_, ?_⟩
 ·unfold r3_33; rw [code_rg]
  simp only [↓gs_o', ↓gs_nil', evI_mv, ev_t', ev_c', lk_cons, reduceIte, Nat.reduceEqDiff, brec_t]
  rfl
 ·rw [lk_outsT, if_pos (by decide)]; rfl
 ·intro q hq; rw [lk_outsT, if_neg hq]
theorem x3_7 (hs : lk 8 T = i j) (h7 : lk 7 T = i m) {q : Bool} (hq : ltI (j : Int) (m : Int) = q) : ∃ T', (∀ kn kx kr, code rec 0 r3_7 T n H kn kx kr = kn T' (n) (H)) /\ lk 41 T' = .bool q /\ ∀ q, q ∉ [41] -> lk q T' = lk q T := by
 apply Exists.intro
 refine ⟨fun kn kx kr => ?_, ?_, ?_⟩
 ·unfold r3_7; rw [code_rg]
  simp only [↓gs_o', ↓gs_nil', evI_ilss, eIlss, evI_mv, ev_t', ev_c', lk_cons, keq64, brec_t, brec_f, and_t, and_f, not_t, not_f, nbeq, nble, decide_true, decide_false, reduceIte, Nat.reduceEqDiff, hs, h7, hq]
  rfl
 ·rw [lk_outsT, if_pos (by decide)]; rfl
 ·intro q hq; rw [lk_outsT, if_neg hq]
theorem x3_14 (hs : lk 9 T = i j) (h7 : lk 7 T = i m) {q : Bool} (hq : ltI (j : Int) (m : Int) = q) : ∃ T', (∀ kn kx kr, code rec 0 r3_14 T n H kn kx kr = kn T' (n) (H)) /\ lk 70 T' = .bool q /\ ∀ q, q ∉ [70] -> lk q T' = lk q T := by
 apply Exists.intro
 refine ⟨fun kn kx kr => ?_, ?_, ?_⟩
 ·unfold r3_14; rw [code_rg]
  simp only [↓gs_o', ↓gs_nil', evI_ilss, eIlss, evI_mv, ev_t', ev_c', lk_cons, keq64, brec_t, brec_f, and_t, and_f, not_t, not_f, nbeq, nble, decide_true, decide_false, reduceIte, Nat.reduceEqDiff, hs, h7, hq]
  rfl
 ·rw [lk_outsT, if_pos (by decide)]; rfl
 ·intro q hq; rw [lk_outsT, if_neg hq]
theorem x3_8 (h5 : lk 5 T = .ptr 2 0 [] 45) (b2 : hget 2 H = some (.row [.ob w 45] false)) (hne : n ≠ 2) (hc : ∀ n H, rec 8 [.ob w 45, .agg 53 [i 1, i 0, i 0, i 0, i 0, i 0, .sv [.str [109]] true, .sn]] 0 n H = some (.tup [.ob w' 45, x, i 0], n, H)) (hg : hget 2 (hdel n ((n, .row [.str [109]] false) :: H)) = some (.row [.ob w 45] false)) : ∃ T', (∀ kn kx kr, code rec 0 r3_8 T n H kn kx kr = kn T' (n + 1) (hset 2 (.row [.ob w' 45] false) (hdel n ((n, .row [.str [109]] false) :: H)))) /\ lk 6 T' = i 0 /\ ∀ q, q ∉ [6] -> lk q T' = lk q T := by
 apply Exists.intro
 refine ⟨fun kn kx kr => ?_, ?_, ?_⟩
 ·unfold r3_8; rw [code_rg]
  simp only [↓gs_o', ↓gs_nil', ↓gs_n', ↓gs_z', evI_bl, eBl, nth0, nthS, lset0, evI_bs, eBs, evI_ca, evs_cons', evs_nil', evI_ex, eEx, evI_la, eLa, rd_ptr, rd_pv, rdb_row, gp_nil, gp_agg, evI_mv, evI_sa, eSa, wr_ptr, wrb_row, sp_nil, sp_agg, ev_t', ev_c', lk_cons, keq64, brec_t, brec_f, and_t, and_f, not_t, not_f, nbeq, nble, decide_true, decide_false, reduceIte, Nat.reduceEqDiff, h5, hk_at b2, z53, qi, build_nil, build_cons, fill1, lsetS, like, lc, frz_b (hget_top n _ _), call_at (hc _ _), hk_at hg, Nat.zero_le, decide_true]
  rfl
 ·rw [lk_outsT, if_pos (by decide)]; rfl
 ·intro q hq; rw [lk_outsT, if_neg hq]
theorem x3_9 (h6 : lk 6 T = i 0) : ∃ T', (∀ kn kx kr, code rec 0 r3_9 T n H kn kx kr = kn T' (n) (H)) /\ lk 53 T' = .bool false /\ ∀ q, q ∉ [53] -> lk q T' = lk q T := by
 apply Exists.intro
 refine ⟨fun kn kx kr => ?_, ?_, ?_⟩
 ·unfold r3_9; rw [code_rg]
  simp only [↓gs_o', ↓gs_nil', evI_mv, evI_ne, eNe, eqv_i, ev_t', ev_c', lk_cons, keq64, brec_t, brec_f, and_t, and_f, not_t, not_f, nbeq, nble, decide_true, decide_false, reduceIte, Nat.reduceEqDiff, h6, ne0]
  rfl
 ·rw [lk_outsT, if_pos (by decide)]; rfl
 ·intro q hq; rw [lk_outsT, if_neg hq]
theorem x3_16 (h6 : lk 6 T = i 0) : ∃ T', (∀ kn kx kr, code rec 0 r3_16 T n H kn kx kr = kn T' (n) (H)) /\ lk 83 T' = .bool false /\ ∀ q, q ∉ [83] -> lk q T' = lk q T := by
 apply Exists.intro
 refine ⟨fun kn kx kr => ?_, ?_, ?_⟩
 ·unfold r3_16; rw [code_rg]
  simp only [↓gs_o', ↓gs_nil', evI_mv, evI_ne, eNe, eqv_i, ev_t', ev_c', lk_cons, keq64, brec_t, brec_f, and_t, and_f, not_t, not_f, nbeq, nble, decide_true, decide_false, reduceIte, Nat.reduceEqDiff, h6, ne0]
  rfl
 ·rw [lk_outsT, if_pos (by decide)]; rfl
 ·intro q hq; rw [lk_outsT, if_neg hq]
theorem x3_10 (hs : lk 8 T = i j) (hj : j <= 100000000) : ∃ T', (∀ kn kx kr, code rec 0 r3_10 T n H kn kx kr = kn T' (n) (H)) /\ lk 8 T' = i (j + 1 : Nat) /\ ∀ q, q ∉ [8] -> lk q T' = lk q T := by
 apply Exists.intro
 refine ⟨fun kn kx kr => ?_, ?_, ?_⟩
 ·unfold r3_10; rw [code_rg]
  simp only [↓gs_o', ↓gs_nil', evI_iadd, eIadd, evI_mv, ev_t', ev_c', lk_cons, keq64, brec_t, brec_f, and_t, and_f, not_t, not_f, nbeq, nble, decide_true, decide_false, reduceIte, Nat.reduceEqDiff, hs, wrapS hj]
  rfl
 ·rw [lk_outsT, if_pos (by decide)]; rfl
 ·intro q hq; rw [lk_outsT, if_neg hq]
theorem x3_17 (hs : lk 9 T = i j) (hj : j <= 100000000) : ∃ T', (∀ kn kx kr, code rec 0 r3_17 T n H kn kx kr = kn T' (n) (H)) /\ lk 9 T' = i (j + 1 : Nat) /\ ∀ q, q ∉ [9] -> lk q T' = lk q T := by
 apply Exists.intro
 refine ⟨fun kn kx kr => ?_, ?_, ?_⟩
 ·unfold r3_17; rw [code_rg]
  simp only [↓gs_o', ↓gs_nil', evI_iadd, eIadd, evI_mv, ev_t', ev_c', lk_cons, keq64, brec_t, brec_f, and_t, and_f, not_t, not_f, nbeq, nble, decide_true, decide_false, reduceIte, Nat.reduceEqDiff, hs, wrapS hj]
  rfl
 ·rw [lk_outsT, if_pos (by decide)]; rfl
 ·intro q hq; rw [lk_outsT, if_neg hq]
theorem x3_24 (hs : lk 10 T = i j) (hj : j <= 100000000) : ∃ T', (∀ kn kx kr, code rec 0 r3_24 T n H kn kx kr = kn T' (n) (H)) /\ lk 10 T' = i (j + 1 : Nat) /\ ∀ q, q ∉ [10] -> lk q T' = lk q T := by
 apply Exists.intro
 refine ⟨fun kn kx kr => ?_, ?_, ?_⟩
 ·unfold r3_24; rw [code_rg]
  simp only [↓gs_o', ↓gs_nil', evI_iadd, eIadd, evI_mv, ev_t', ev_c', lk_cons, keq64, brec_t, brec_f, and_t, and_f, not_t, not_f, nbeq, nble, decide_true, decide_false, reduceIte, Nat.reduceEqDiff, hs, wrapS hj]
  rfl
 ·rw [lk_outsT, if_pos (by decide)]; rfl
 ·intro q hq; rw [lk_outsT, if_neg hq]
theorem x3_38 (hs : lk 13 T = i j) (hj : j <= 100000000) : ∃ T', (∀ kn kx kr, code rec 0 r3_38 T n H kn kx kr = kn T' (n) (H)) /\ lk 13 T' = i (j + 1 : Nat) /\ ∀ q, q ∉ [13] -> lk q T' = lk q T := by
 apply Exists.intro
 refine ⟨fun kn kx kr => ?_, ?_, ?_⟩
 ·unfold r3_38; rw [code_rg]
  simp only [↓gs_o', ↓gs_nil', evI_iadd, eIadd, evI_mv, ev_t', ev_c', lk_cons, keq64, brec_t, brec_f, and_t, and_f, not_t, not_f, nbeq, nble, decide_true, decide_false, reduceIte, Nat.reduceEqDiff, hs, wrapS hj]
  rfl
 ·rw [lk_outsT, if_pos (by decide)]; rfl
 ·intro q hq; rw [lk_outsT, if_neg hq]
theorem x3_39 (hs : lk 16 T = i j) (hj : j <= 100000000) : ∃ T', (∀ kn kx kr, code rec 0 r3_39 T n H kn kx kr = kn T' (n) (H)) /\ lk 16 T' = i (j + 1 : Nat) /\ ∀ q, q ∉ [16] -> lk q T' = lk q T := by
 apply Exists.intro
 refine ⟨fun kn kx kr => ?_, ?_, ?_⟩
 ·unfold r3_39; rw [code_rg]
  simp only [↓gs_o', ↓gs_nil', evI_iadd, eIadd, evI_mv, ev_t', ev_c', lk_cons, keq64, brec_t, brec_f, and_t, and_f, not_t, not_f, nbeq, nble, decide_true, decide_false, reduceIte, Nat.reduceEqDiff, hs, wrapS hj]
  rfl
 ·rw [lk_outsT, if_pos (by decide)]; rfl
 ·intro q hq; rw [lk_outsT, if_neg hq]
theorem x3_40 (hs : lk 14 T = i j) (hj : j <= 100000000) : ∃ T', (∀ kn kx kr, code rec 0 r3_40 T n H kn kx kr = kn T' (n) (H)) /\ lk 14 T' = i (j + 1 : Nat) /\ ∀ q, q ∉ [14] -> lk q T' = lk q T := by
 apply Exists.intro
 refine ⟨fun kn kx kr => ?_, ?_, ?_⟩
 ·unfold r3_40; rw [code_rg]
  simp only [↓gs_o', ↓gs_nil', evI_iadd, eIadd, evI_mv, ev_t', ev_c', lk_cons, keq64, brec_t, brec_f, and_t, and_f, not_t, not_f, nbeq, nble, decide_true, decide_false, reduceIte, Nat.reduceEqDiff, hs, wrapS hj]
  rfl
 ·rw [lk_outsT, if_pos (by decide)]; rfl
 ·intro q hq; rw [lk_outsT, if_neg hq]
theorem x3_11 (h5 : lk 5 T = .ptr 2 0 [] 45) (b2 : hget 2 H = some (.row [.ob w 45] false)) (hc : rec 9 [.ob w 45] 0 n H = some (.tup [.ob w' 45, x, i 0], n, H)) : ∃ T', (∀ kn kx kr, code rec 0 r3_11 T n H kn kx kr = kn T' (n) (hset 2 (.row [.ob w' 45] false) H)) /\ lk 6 T' = i 0 /\ ∀ q, q ∉ [6] -> lk q T' = lk q T := by
 apply Exists.intro
 refine ⟨fun kn kx kr => ?_, ?_, ?_⟩
 ·unfold r3_11; rw [code_rg]
  simp only [↓gs_o', ↓gs_nil', ↓gs_n', evI_ca, evs_cons', evs_nil', evI_ex, eEx, nth0, nthS, evI_la, eLa, rd_ptr, rd_pv, rdb_row, gp_nil, gp_agg, evI_mv, evI_sa, eSa, wr_ptr, wrb_row, sp_nil, sp_agg, lset0, ev_t', ev_c', lk_cons, keq64, brec_t, brec_f, and_t, and_f, not_t, not_f, nbeq, nble, decide_true, decide_false, reduceIte, Nat.reduceEqDiff, h5, hk_at b2, call_at hc, like, lc, Nat.zero_le, decide_true]
  rfl
 ·rw [lk_outsT, if_pos (by decide)]; rfl
 ·intro q hq; rw [lk_outsT, if_neg hq]
theorem x3_25 (h5 : lk 5 T = .ptr 2 0 [] 45) (b2 : hget 2 H = some (.row [.ob w 45] false)) {fs : List AV} (hc : rec 9 [.ob w 45] 0 n H = some (.tup [.agg 44 fs, x, i 0], n, H)) : ∃ T', (∀ kn kx kr, code rec 0 r3_25 T n H kn kx kr = kn T' (n) (hset 2 (.row [.agg 44 fs] false) H)) /\ lk 6 T' = i 0 /\ ∀ q, q ∉ [6] -> lk q T' = lk q T := by
 apply Exists.intro
 refine ⟨fun kn kx kr => ?_, ?_, ?_⟩
 ·unfold r3_25; rw [code_rg]
  simp only [↓gs_o', ↓gs_nil', ↓gs_n', evI_ca, evs_cons', evs_nil', evI_ex, eEx, nth0, nthS, evI_la, eLa, rd_ptr, rd_pv, rdb_row, gp_nil, gp_agg, evI_mv, evI_sa, eSa, wr_ptr, wrb_row, sp_nil, sp_agg, lset0, ev_t', ev_c', lk_cons, keq64, brec_t, brec_f, and_t, and_f, not_t, not_f, nbeq, nble, decide_true, decide_false, reduceIte, Nat.reduceEqDiff, h5, hk_at b2, call_at hc, like, lc, Nat.zero_le, decide_true]
  rfl
 ·rw [lk_outsT, if_pos (by decide)]; rfl
 ·intro q hq; rw [lk_outsT, if_neg hq]
theorem x3_19 (hs : lk 10 T = i j) (h3 : lk 3 T = .ptr 0 0 [] 85) {q : Bool} (hj : j < 150) (hc : rec 11 [.ptr 0 0 [] 85] 0 n H = some (.bool q, n, H)) : ∃ T', (∀ kn kx kr, code rec 0 r3_19 T n H kn kx kr = kn T' (n) (H)) /\ lk 89 T' = .bool q /\ ∀ q, q ∉ [89] -> lk q T' = lk q T := by
 apply Exists.intro
 refine ⟨fun kn kx kr => ?_, ?_, ?_⟩
 ·unfold r3_19; rw [code_rg]
  simp only [↓gs_o', ↓gs_nil', ↓gs_gt, ↓gs_g0, ↓gs_g1, evI_ca, evs_cons', evs_nil', evI_ilss, eIlss, evI_mv, evI_pk, ePk, ev_t', ev_c', lk_cons, keq64, brec_t, brec_f, and_t, and_f, not_t, not_f, nbeq, nble, decide_true, decide_false, reduceIte, Nat.reduceEqDiff, hs, h3, r64_150 hj, call_at hc]
  rfl
 ·rw [lk_outsT, if_pos (by decide)]; rfl
 ·intro q hq; rw [lk_outsT, if_neg hq]
theorem x3_19e (hs : lk 10 T = i j) (hj : ¬ j < 150) : ∃ T', (∀ kn kx kr, code rec 0 r3_19 T n H kn kx kr = kn T' (n) (H)) /\ lk 89 T' = .bool false /\ ∀ q, q ∉ [89] -> lk q T' = lk q T := by
 apply Exists.intro
 refine ⟨fun kn kx kr => ?_, ?_, ?_⟩
 ·unfold r3_19; rw [code_rg]
  simp only [↓gs_o', ↓gs_nil', ↓gs_gt, ↓gs_g0, ↓gs_g1, evI_ca, evs_cons', evs_nil', evI_ilss, eIlss, evI_mv, evI_pk, ePk, ev_t', ev_c', lk_cons, keq64, brec_t, brec_f, and_t, and_f, not_t, not_f, nbeq, nble, decide_true, decide_false, reduceIte, Nat.reduceEqDiff, hs, r64_150f hj]
  rfl
 ·rw [lk_outsT, if_pos (by decide)]; rfl
 ·intro q hq; rw [lk_outsT, if_neg hq]
theorem x3_20 (h5 : lk 5 T = .ptr 2 0 [] 45) (b2 : hget 2 H = some (.row [.ob w 45] false)) (hc : rec 12 [.ob w 45] 0 n H = some (opA L, n, H)) : ∃ T', (∀ kn kx kr, code rec 0 r3_20 T n H kn kx kr = kn T' (n) (H)) /\ lk 11 T' = i L.length /\ ∀ q, q ∉ [11] -> lk q T' = lk q T := by
 apply Exists.intro
 refine ⟨fun kn kx kr => ?_, ?_, ?_⟩
 ·unfold r3_20; rw [code_rg]
  simp only [↓gs_o', ↓gs_nil', evI_ca, evs_cons', evs_nil', evI_la, eLa, rd_ptr, rd_pv, rdb_row, nth0, nthS, gp_nil, gp_agg, evI_ln, evI_mv, ev_t', ev_c', lk_cons, keq64, brec_t, brec_f, and_t, and_f, not_t, not_f, nbeq, nble, decide_true, decide_false, reduceIte, Nat.reduceEqDiff, h5, hk_at b2, call_at hc, lnv_op]
  rfl
 ·rw [lk_outsT, if_pos (by decide)]; rfl
 ·intro q hq; rw [lk_outsT, if_neg hq]
theorem x3_21 (hs : lk 11 T = i m) {q : Bool} (hq : beqI (m : Int) 0 = q) : ∃ T', (∀ kn kx kr, code rec 0 r3_21 T n H kn kx kr = kn T' (n) (H)) /\ lk 96 T' = .bool q /\ ∀ q, q ∉ [96] -> lk q T' = lk q T := by
 apply Exists.intro
 refine ⟨fun kn kx kr => ?_, ?_, ?_⟩
 ·unfold r3_21; rw [code_rg]
  simp only [↓gs_o', ↓gs_nil', evI_eq, eEq, eqv_i, evI_mv, ev_t', ev_c', lk_cons, keq64, brec_t, brec_f, and_t, and_f, not_t, not_f, nbeq, nble, decide_true, decide_false, reduceIte, Nat.reduceEqDiff, hs, hq]
  rfl
 ·rw [lk_outsT, if_pos (by decide)]; rfl
 ·intro q hq; rw [lk_outsT, if_neg hq]
theorem x3_15 (h3 : lk 3 T = .ptr 0 0 [] 85) (h5 : lk 5 T = .ptr 2 0 [] 45) {ab : AB} (b0 : hget 0 H = some ab) (b2 : hget 2 H = some (.row [.ob w 45] false)) {H1 : Hp} (hN : rec 10 [.ptr 0 0 [] 85, i 3] 0 n [(0, ab)] = some (i r, n, H1)) (hc : ∀ wm n H, rec 8 [.ob w 45, invRA r] wm n H = some (.tup [.ob w' 45, x, i 0], n, H)) (hg : hget 2 (happ H1 (happ (hdel 0 (hdel 2 ((2, .row [.ob w 45] false) :: hdel 2 H))) [(2, .row [.ob w 45] false)])) = some (.row [.ob w 45] false)) : ∃ T', (∀ kn kx kr, code rec 0 r3_15 T n H kn kx kr = kn T' (n) (hset 2 (.row [.ob w' 45] false) (happ H1 (happ (hdel 0 (hdel 2 ((2, .row [.ob w 45] false) :: hdel 2 H))) [(2, .row [.ob w 45] false)])))) /\ lk 6 T' = i 0 /\ ∀ q, q ∉ [6] -> lk q T' = lk q T := by
 apply Exists.intro
 refine ⟨fun kn kx kr => ?_, ?_, ?_⟩
 ·unfold r3_15; rw [code_dr]
  rw [ds_k1 (v := .ob w 45) (b := 2) (o := 0) (p := []) (c := 45) (ab := .row [.ob w 45] false) (by simp only [ev_t', h5]) b2 (fun f => by simp only [evI_bl, eBl, nth0, nthS, lset0, evI_ca, evs_cons', evs_nil', evI_ex, eEx, evI_la, eLa, rd_ptr, rd_pv, rdb_row, gp_nil, gp_agg, evI_mv, evI_sa, eSa, wr_ptr, wrb_row, sp_nil, sp_agg, ev_t', ev_c', lk_cons, keq64, brec_t, brec_f, and_t, and_f, not_t, not_f, nbeq, nble, decide_true, decide_false, reduceIte, Nat.reduceEqDiff, h5, hk_at (hget_top 2 _ _)])]
  rw [ds_p (v := .ptr 0 0 [] 85) (fun f => by simp only [dput_some, dput_none, evI_bl, eBl, nth0, nthS, lset0, evI_ca, evs_cons', evs_nil', evI_ex, eEx, evI_la, eLa, rd_ptr, rd_pv, rdb_row, gp_nil, gp_agg, evI_mv, evI_sa, eSa, wr_ptr, wrb_row, sp_nil, sp_agg, ev_t', ev_c', lk_cons, keq64, brec_t, brec_f, and_t, and_f, not_t, not_f, nbeq, nble, decide_true, decide_false, reduceIte, Nat.reduceEqDiff, h3])]
  rw [ds_k2 (v := i r) (b := 0) (b' := 2) (o := 0) (p := []) (c := 85) (o' := 0) (p' := []) (c' := 45) (H' := H1) (ab' := .row [.ob w 45] false) (by simp only [dput_some, evI_bl, eBl, nth0, nthS, lset0, evI_ca, evs_cons', evs_nil', evI_ex, eEx, evI_la, eLa, rd_ptr, rd_pv, rdb_row, gp_nil, gp_agg, evI_mv, evI_sa, eSa, wr_ptr, wrb_row, sp_nil, sp_agg, ev_t', ev_c', lk_cons, keq64, brec_t, brec_f, and_t, and_f, not_t, not_f, nbeq, nble, decide_true, decide_false, reduceIte, Nat.reduceEqDiff, h3]) (by simp only [dput_some, evI_bl, eBl, nth0, nthS, lset0, evI_ca, evs_cons', evs_nil', evI_ex, eEx, evI_la, eLa, rd_ptr, rd_pv, rdb_row, gp_nil, gp_agg, evI_mv, evI_sa, eSa, wr_ptr, wrb_row, sp_nil, sp_agg, ev_t', ev_c', lk_cons, keq64, brec_t, brec_f, and_t, and_f, not_t, not_f, nbeq, nble, decide_true, decide_false, reduceIte, Nat.reduceEqDiff, h5]) (by rw [hget_cons, if_neg (by decide), hget_hdel, if_neg (by decide)]; exact b0) (hget_top 2 _ _) (by decide) (fun f => by simp only [dput_some, evI_bl, eBl, nth0, nthS, lset0, evI_ca, evs_cons', evs_nil', evI_ex, eEx, evI_la, eLa, rd_ptr, rd_pv, rdb_row, gp_nil, gp_agg, evI_mv, evI_sa, eSa, wr_ptr, wrb_row, sp_nil, sp_agg, ev_t', ev_c', lk_cons, keq64, brec_t, brec_f, and_t, and_f, not_t, not_f, nbeq, nble, decide_true, decide_false, reduceIte, Nat.reduceEqDiff, h3, call_at hN])]
  rw [ds_p (v := invRA r) (fun f => by simp only [dput_some, dput_none, evI_bl, eBl, nth0, nthS, lset0, evI_ca, evs_cons', evs_nil', evI_ex, eEx, evI_la, eLa, rd_ptr, rd_pv, rdb_row, gp_nil, gp_agg, evI_mv, evI_sa, eSa, wr_ptr, wrb_row, sp_nil, sp_agg, ev_t', ev_c', lk_cons, keq64, brec_t, brec_f, and_t, and_f, not_t, not_f, nbeq, nble, decide_true, decide_false, reduceIte, Nat.reduceEqDiff, z53, qi, build_nil, build_cons, lsetS, like, lc, invRA])]
  rw [ds_a (v := .tup [.ob w' 45, x, i 0]) (H' := happ H1 (happ (hdel 0 (hdel 2 ((2, .row [.ob w 45] false) :: hdel 2 H))) [(2, .row [.ob w 45] false)])) (fun f => by simp only [dput_some, dput_none, evI_bl, eBl, nth0, nthS, lset0, evI_ca, evs_cons', evs_nil', evI_ex, eEx, evI_la, eLa, rd_ptr, rd_pv, rdb_row, gp_nil, gp_agg, evI_mv, evI_sa, eSa, wr_ptr, wrb_row, sp_nil, sp_agg, ev_t', ev_c', lk_cons, keq64, brec_t, brec_f, and_t, and_f, not_t, not_f, nbeq, nble, decide_true, decide_false, reduceIte, Nat.reduceEqDiff, call_at (hc _ _ _)])]
  rw [ds_p (v := .tup [.ob w' 45, x, i 0]) (fun f => by simp only [dput_some, dput_none, evI_bl, eBl, nth0, nthS, lset0, evI_ca, evs_cons', evs_nil', evI_ex, eEx, evI_la, eLa, rd_ptr, rd_pv, rdb_row, gp_nil, gp_agg, evI_mv, evI_sa, eSa, wr_ptr, wrb_row, sp_nil, sp_agg, ev_t', ev_c', lk_cons, keq64, brec_t, brec_f, and_t, and_f, not_t, not_f, nbeq, nble, decide_true, decide_false, reduceIte, Nat.reduceEqDiff, h3])]
  rw [ds_p (v := .ob w' 45) (fun f => by simp only [dput_some, dput_none, evI_bl, eBl, nth0, nthS, lset0, evI_ca, evs_cons', evs_nil', evI_ex, eEx, evI_la, eLa, rd_ptr, rd_pv, rdb_row, gp_nil, gp_agg, evI_mv, evI_sa, eSa, wr_ptr, wrb_row, sp_nil, sp_agg, ev_t', ev_c', lk_cons, keq64, brec_t, brec_f, and_t, and_f, not_t, not_f, nbeq, nble, decide_true, decide_false, reduceIte, Nat.reduceEqDiff, h3])]
  rw [ds_p (v := x) (fun f => by simp only [dput_some, dput_none, evI_bl, eBl, nth0, nthS, lset0, evI_ca, evs_cons', evs_nil', evI_ex, eEx, evI_la, eLa, rd_ptr, rd_pv, rdb_row, gp_nil, gp_agg, evI_mv, evI_sa, eSa, wr_ptr, wrb_row, sp_nil, sp_agg, ev_t', ev_c', lk_cons, keq64, brec_t, brec_f, and_t, and_f, not_t, not_f, nbeq, nble, decide_true, decide_false, reduceIte, Nat.reduceEqDiff, h3])]
  rw [ds_p (v := i 0) (fun f => by simp only [dput_some, dput_none, evI_bl, eBl, nth0, nthS, lset0, evI_ca, evs_cons', evs_nil', evI_ex, eEx, evI_la, eLa, rd_ptr, rd_pv, rdb_row, gp_nil, gp_agg, evI_mv, evI_sa, eSa, wr_ptr, wrb_row, sp_nil, sp_agg, ev_t', ev_c', lk_cons, keq64, brec_t, brec_f, and_t, and_f, not_t, not_f, nbeq, nble, decide_true, decide_false, reduceIte, Nat.reduceEqDiff, h3])]
  rw [ds_a (v := .top) (H' := hset 2 (.row [.ob w' 45] false) (happ H1 (happ (hdel 0 (hdel 2 ((2, .row [.ob w 45] false) :: hdel 2 H))) [(2, .row [.ob w 45] false)]))) (fun f => by simp only [dput_some, dput_none, evI_bl, eBl, nth0, nthS, lset0, evI_ca, evs_cons', evs_nil', evI_ex, eEx, evI_la, eLa, rd_ptr, rd_pv, rdb_row, gp_nil, gp_agg, evI_mv, evI_sa, eSa, wr_ptr, wrb_row, sp_nil, sp_agg, ev_t', ev_c', lk_cons, keq64, brec_t, brec_f, and_t, and_f, not_t, not_f, nbeq, nble, decide_true, decide_false, reduceIte, Nat.reduceEqDiff, h5, hk_at hg, like, lc, Nat.zero_le, decide_true])]
  rw [ds_p (v := i 0) (fun f => by simp only [dput_some, dput_none, evI_bl, eBl, nth0, nthS, lset0, evI_ca, evs_cons', evs_nil', evI_ex, eEx, evI_la, eLa, rd_ptr, rd_pv, rdb_row, gp_nil, gp_agg, evI_mv, evI_sa, eSa, wr_ptr, wrb_row, sp_nil, sp_agg, ev_t', ev_c', lk_cons, keq64, brec_t, brec_f, and_t, and_f, not_t, not_f, nbeq, nble, decide_true, decide_false, reduceIte, Nat.reduceEqDiff, h3])]
  rw [ds_nil]
 ·rw [lk_outsT, if_pos (by decide)]; rfl
 ·intro q hq; rw [lk_outsT, if_neg hq]
theorem x3_22 (h3 : lk 3 T = .ptr 0 0 [] 85) (h5 : lk 5 T = .ptr 2 0 [] 45) {ab : AB} (b0 : hget 0 H = some ab) (b2 : hget 2 H = some (.row [.ob w 45] false)) {H1 : Hp} (h11 : lk 11 T = i m) (hN : rec 10 [.ptr 0 0 [] 85, i m] 0 n [(0, ab)] = some (i r, n, H1)) (hc : ∀ wm n H, rec 13 [.ob w 45, i r] wm n H = some (.tup [.ob w' 45, i 0], n, H)) (hg : hget 2 (happ H1 (happ (hdel 0 (hdel 2 ((2, .row [.ob w 45] false) :: hdel 2 H))) [(2, .row [.ob w 45] false)])) = some (.row [.ob w 45] false)) : ∃ T', (∀ kn kx kr, code rec 0 r3_22 T n H kn kx kr = kn T' (n) (hset 2 (.row [.ob w' 45] false) (happ H1 (happ (hdel 0 (hdel 2 ((2, .row [.ob w 45] false) :: hdel 2 H))) [(2, .row [.ob w 45] false)])))) /\ lk 6 T' = i 0 /\ ∀ q, q ∉ [6] -> lk q T' = lk q T := by
 apply Exists.intro
 refine ⟨fun kn kx kr => ?_, ?_, ?_⟩
 ·unfold r3_22; rw [code_dr]
  rw [ds_k1 (v := .ob w 45) (b := 2) (o := 0) (p := []) (c := 45) (ab := .row [.ob w 45] false) (by simp only [ev_t', h5]) b2 (fun f => by simp only [evI_bl, eBl, nth0, nthS, lset0, evI_ca, evs_cons', evs_nil', evI_ex, eEx, evI_la, eLa, rd_ptr, rd_pv, rdb_row, gp_nil, gp_agg, evI_mv, evI_sa, eSa, wr_ptr, wrb_row, sp_nil, sp_agg, ev_t', ev_c', lk_cons, keq64, brec_t, brec_f, and_t, and_f, not_t, not_f, nbeq, nble, decide_true, decide_false, reduceIte, Nat.reduceEqDiff, h5, hk_at (hget_top 2 _ _)])]
  rw [ds_p (v := .ptr 0 0 [] 85) (fun f => by simp only [dput_some, dput_none, evI_bl, eBl, nth0, nthS, lset0, evI_ca, evs_cons', evs_nil', evI_ex, eEx, evI_la, eLa, rd_ptr, rd_pv, rdb_row, gp_nil, gp_agg, evI_mv, evI_sa, eSa, wr_ptr, wrb_row, sp_nil, sp_agg, ev_t', ev_c', lk_cons, keq64, brec_t, brec_f, and_t, and_f, not_t, not_f, nbeq, nble, decide_true, decide_false, reduceIte, Nat.reduceEqDiff, h3])]
  rw [ds_p (v := i m) (fun f => by simp only [dput_some, dput_none, evI_bl, eBl, nth0, nthS, lset0, evI_ca, evs_cons', evs_nil', evI_ex, eEx, evI_la, eLa, rd_ptr, rd_pv, rdb_row, gp_nil, gp_agg, evI_mv, evI_sa, eSa, wr_ptr, wrb_row, sp_nil, sp_agg, ev_t', ev_c', lk_cons, keq64, brec_t, brec_f, and_t, and_f, not_t, not_f, nbeq, nble, decide_true, decide_false, reduceIte, Nat.reduceEqDiff, h11])]
  rw [ds_k2 (v := i r) (b := 0) (b' := 2) (o := 0) (p := []) (c := 85) (o' := 0) (p' := []) (c' := 45) (H' := H1) (ab' := .row [.ob w 45] false) (by simp only [dput_some, evI_bl, eBl, nth0, nthS, lset0, evI_ca, evs_cons', evs_nil', evI_ex, eEx, evI_la, eLa, rd_ptr, rd_pv, rdb_row, gp_nil, gp_agg, evI_mv, evI_sa, eSa, wr_ptr, wrb_row, sp_nil, sp_agg, ev_t', ev_c', lk_cons, keq64, brec_t, brec_f, and_t, and_f, not_t, not_f, nbeq, nble, decide_true, decide_false, reduceIte, Nat.reduceEqDiff, h3]) (by simp only [dput_some, evI_bl, eBl, nth0, nthS, lset0, evI_ca, evs_cons', evs_nil', evI_ex, eEx, evI_la, eLa, rd_ptr, rd_pv, rdb_row, gp_nil, gp_agg, evI_mv, evI_sa, eSa, wr_ptr, wrb_row, sp_nil, sp_agg, ev_t', ev_c', lk_cons, keq64, brec_t, brec_f, and_t, and_f, not_t, not_f, nbeq, nble, decide_true, decide_false, reduceIte, Nat.reduceEqDiff, h5]) (by rw [hget_cons, if_neg (by decide), hget_hdel, if_neg (by decide)]; exact b0) (hget_top 2 _ _) (by decide) (fun f => by simp only [dput_some, evI_bl, eBl, nth0, nthS, lset0, evI_ca, evs_cons', evs_nil', evI_ex, eEx, evI_la, eLa, rd_ptr, rd_pv, rdb_row, gp_nil, gp_agg, evI_mv, evI_sa, eSa, wr_ptr, wrb_row, sp_nil, sp_agg, ev_t', ev_c', lk_cons, keq64, brec_t, brec_f, and_t, and_f, not_t, not_f, nbeq, nble, decide_true, decide_false, reduceIte, Nat.reduceEqDiff, h3, h11, call_at hN])]
  rw [ds_a (v := .tup [.ob w' 45, i 0]) (H' := happ H1 (happ (hdel 0 (hdel 2 ((2, .row [.ob w 45] false) :: hdel 2 H))) [(2, .row [.ob w 45] false)])) (fun f => by simp only [dput_some, dput_none, evI_bl, eBl, nth0, nthS, lset0, evI_ca, evs_cons', evs_nil', evI_ex, eEx, evI_la, eLa, rd_ptr, rd_pv, rdb_row, gp_nil, gp_agg, evI_mv, evI_sa, eSa, wr_ptr, wrb_row, sp_nil, sp_agg, ev_t', ev_c', lk_cons, keq64, brec_t, brec_f, and_t, and_f, not_t, not_f, nbeq, nble, decide_true, decide_false, reduceIte, Nat.reduceEqDiff, call_at (hc _ _ _)])]
  rw [ds_p (v := .tup [.ob w' 45, i 0]) (fun f => by simp only [dput_some, dput_none, evI_bl, eBl, nth0, nthS, lset0, evI_ca, evs_cons', evs_nil', evI_ex, eEx, evI_la, eLa, rd_ptr, rd_pv, rdb_row, gp_nil, gp_agg, evI_mv, evI_sa, eSa, wr_ptr, wrb_row, sp_nil, sp_agg, ev_t', ev_c', lk_cons, keq64, brec_t, brec_f, and_t, and_f, not_t, not_f, nbeq, nble, decide_true, decide_false, reduceIte, Nat.reduceEqDiff, h3])]
  rw [ds_p (v := .ob w' 45) (fun f => by simp only [dput_some, dput_none, evI_bl, eBl, nth0, nthS, lset0, evI_ca, evs_cons', evs_nil', evI_ex, eEx, evI_la, eLa, rd_ptr, rd_pv, rdb_row, gp_nil, gp_agg, evI_mv, evI_sa, eSa, wr_ptr, wrb_row, sp_nil, sp_agg, ev_t', ev_c', lk_cons, keq64, brec_t, brec_f, and_t, and_f, not_t, not_f, nbeq, nble, decide_true, decide_false, reduceIte, Nat.reduceEqDiff, h3])]
  rw [ds_p (v := i 0) (fun f => by simp only [dput_some, dput_none, evI_bl, eBl, nth0, nthS, lset0, evI_ca, evs_cons', evs_nil', evI_ex, eEx, evI_la, eLa, rd_ptr, rd_pv, rdb_row, gp_nil, gp_agg, evI_mv, evI_sa, eSa, wr_ptr, wrb_row, sp_nil, sp_agg, ev_t', ev_c', lk_cons, keq64, brec_t, brec_f, and_t, and_f, not_t, not_f, nbeq, nble, decide_true, decide_false, reduceIte, Nat.reduceEqDiff, h3])]
  rw [ds_a (v := .top) (H' := hset 2 (.row [.ob w' 45] false) (happ H1 (happ (hdel 0 (hdel 2 ((2, .row [.ob w 45] false) :: hdel 2 H))) [(2, .row [.ob w 45] false)]))) (fun f => by simp only [dput_some, dput_none, evI_bl, eBl, nth0, nthS, lset0, evI_ca, evs_cons', evs_nil', evI_ex, eEx, evI_la, eLa, rd_ptr, rd_pv, rdb_row, gp_nil, gp_agg, evI_mv, evI_sa, eSa, wr_ptr, wrb_row, sp_nil, sp_agg, ev_t', ev_c', lk_cons, keq64, brec_t, brec_f, and_t, and_f, not_t, not_f, nbeq, nble, decide_true, decide_false, reduceIte, Nat.reduceEqDiff, h5, hk_at hg, like, lc, Nat.zero_le, decide_true])]
  rw [ds_p (v := i 0) (fun f => by simp only [dput_some, dput_none, evI_bl, eBl, nth0, nthS, lset0, evI_ca, evs_cons', evs_nil', evI_ex, eEx, evI_la, eLa, rd_ptr, rd_pv, rdb_row, gp_nil, gp_agg, evI_mv, evI_sa, eSa, wr_ptr, wrb_row, sp_nil, sp_agg, ev_t', ev_c', lk_cons, keq64, brec_t, brec_f, and_t, and_f, not_t, not_f, nbeq, nble, decide_true, decide_false, reduceIte, Nat.reduceEqDiff, h3])]
  rw [ds_nil]
 ·rw [lk_outsT, if_pos (by decide)]; rfl
 ·intro q hq; rw [lk_outsT, if_neg hq]
theorem x3_26 {s ar lg t hs : AV} {ts : List AV} (h6 : lk 6 T = i 0) (h4 : lk 4 T = .ptr 1 0 [] 28) (h5 : lk 5 T = .ptr 2 0 [] 45) (b1 : hget 1 H = some (.row [setupA live] false)) (b2 : hget 2 H = some (.row [.agg 44 [s, ar, .sv ts false, lg, t, hs]] false)) (hc : rec 7 [.agg 44 [s, ar, .sv ts false, lg, t, hs], setupA live] 0 n H = some (.bool true, n, H)) (h7 : lk 7 T = i m) (hl : ts.length = 2 * m) (hm : m <= 1000) : ∃ T', (∀ kn kx kr, code rec 0 r3_26 T n H kn kx kr = kn T' (n) (H)) /\ lk 134 T' = .bool false /\ ∀ q, q ∉ [134] -> lk q T' = lk q T := by
 apply Exists.intro
 refine ⟨fun kn kx kr => ?_, ?_, ?_⟩
 ·unfold r3_26; rw [code_rg]
  unfold setupA at hc b1
  simp only [↓gs_o', ↓gs_nil', ↓gs_gt, ↓gs_g0, ↓gs_g1, evI_ca, evs_cons', evs_nil', evI_fa, eFa, gp_nil, gp_agg, nth0, nthS, evI_imul, eImul, evI_la, eLa, rd_ptr, rd_pv, rdb_row, evI_ld, eLd, evI_ln, evI_mv, evI_ne, eNe, eqv_i, evI_nt, eNt, evI_pk, ePk, ev_t', ev_c', lk_cons, keq64, brec_t, brec_f, and_t, and_f, not_t, not_f, nbeq, nble, decide_true, decide_false, reduceIte, Nat.reduceEqDiff, h6, h4, h5, h7, hk_at b1, hk_at b2, ne0, call_at hc, snoc_nil, lnv_sv, hl, wrap2 (show m <= 100000000 by omega), beq_self]
  rfl
 ·rw [lk_outsT, if_pos (by decide)]; rfl
 ·intro q hq; rw [lk_outsT, if_neg hq]
theorem x3_27  : ∃ T', (∀ kn kx kr, code rec 0 r3_27 T n H kn kx kr = kn T' (n + 1) ((n, .row [z59] false) :: H)) /\ lk 12 T' = .ptr n 0 [] 60 /\ ∀ q, q ∉ [12] -> lk q T' = lk q T := by
 apply Exists.intro
 refine ⟨fun kn kx kr => ?_, ?_, ?_⟩
 ·unfold r3_27; rw [code_rg]
  simp only [↓gs_o', ↓gs_nil', evI_al, ev_t', ev_c', lk_cons, reduceIte, Nat.reduceEqDiff, brec_t]
  rfl
 ·rw [lk_outsT, if_pos (by decide)]; rfl
 ·intro q hq; rw [lk_outsT, if_neg hq]
theorem x3_29 (h7 : lk 7 T = i m) : ∃ T', (∀ kn kx kr, code rec 0 r3_29 T n H kn kx kr = kn T' (n) (H)) /\ lk 14 T' = i m /\ ∀ q, q ∉ [14] -> lk q T' = lk q T := by
 apply Exists.intro
 refine ⟨fun kn kx kr => ?_, ?_, ?_⟩
 ·unfold r3_29; rw [code_rg]
  simp only [↓gs_o', ↓gs_nil', evI_mv, ev_t', ev_c', lk_cons, reduceIte, Nat.reduceEqDiff, h7]
  rfl
 ·rw [lk_outsT, if_pos (by decide)]; rfl
 ·intro q hq; rw [lk_outsT, if_neg hq]
theorem x3_30 (h14 : lk 14 T = i j) (h7 : lk 7 T = i m) (hm : m <= 1000) {q : Bool} (hq : ltI (j : Int) ((2 * m : Nat) : Int) = q) : ∃ T', (∀ kn kx kr, code rec 0 r3_30 T n H kn kx kr = kn T' (n) (H)) /\ lk 139 T' = .bool q /\ ∀ q, q ∉ [139] -> lk q T' = lk q T := by
 apply Exists.intro
 refine ⟨fun kn kx kr => ?_, ?_, ?_⟩
 ·unfold r3_30; rw [code_rg]
  simp only [↓gs_o', ↓gs_nil', evI_ilss, eIlss, evI_imul, eImul, evI_mv, ev_t', ev_c', lk_cons, keq64, brec_t, brec_f, and_t, and_f, not_t, not_f, nbeq, nble, decide_true, decide_false, reduceIte, Nat.reduceEqDiff, h14, h7, wrap2 (show m <= 100000000 by omega), hq]
  rfl
 ·rw [lk_outsT, if_pos (by decide)]; rfl
 ·intro q hq; rw [lk_outsT, if_neg hq]
theorem x3_31 {s ar lg t hs : AV} {ts : List AV} (h5 : lk 5 T = .ptr 2 0 [] 45) (b2 : hget 2 H = some (.row [.agg 44 [s, ar, .sv ts false, lg, t, hs]] false)) (h14 : lk 14 T = i j) (hj : j < ts.length) {f : Nat -> AV} {dd : Bool} {res : AV} (ht : ts[j] = tkF' f dd (.sv [res] false)) : ∃ T', (∀ kn kx kr, code rec 0 r3_31 T n H kn kx kr = kn T' (n) (H)) /\ lk 15 T' = .sv [res] false /\ ∀ q, q ∉ [15] -> lk q T' = lk q T := by
 apply Exists.intro
 refine ⟨fun kn kx kr => ?_, ?_, ?_⟩
 ·unfold r3_31; rw [code_rg]
  simp only [↓gs_o', ↓gs_nil', evI_fa, eFa, gp_nil, gp_agg, nth0, nthS, evI_ia, eIa, evI_ld, eLd, rd_ptr, rd_pv, rdb_row, evI_mv, ev_t', ev_c', lk_cons, keq64, brec_t, brec_f, and_t, and_f, not_t, not_f, nbeq, nble, decide_true, decide_false, reduceIte, Nat.reduceEqDiff, h5, hk_at b2, snoc_nil, h14, idx_tk hj ht, tkF', lc]
  rfl
 ·rw [lk_outsT, if_pos (by decide)]; rfl
 ·intro q hq; rw [lk_outsT, if_neg hq]
theorem x3_32 (h15 : lk 15 T = .sv [resA id c] false) : ∃ T', (∀ kn kx kr, code rec 0 r3_32 T n H kn kx kr = kn T' (n) (H)) /\ lk 158 T' = .bool false /\ ∀ q, q ∉ [158] -> lk q T' = lk q T := by
 apply Exists.intro
 refine ⟨fun kn kx kr => ?_, ?_, ?_⟩
 ·unfold r3_32; rw [code_rg]
  simp only [↓gs_o', ↓gs_nil', ↓gs_gt, ↓gs_g0, ↓gs_g1, evI_fa, eFa, gp_nil, gp_agg, nth0, nthS, evI_ia, eIa, evI_igtr, eIgtr, evI_ld, eLd, rd_ptr, rd_pv, rdb_row, evI_ln, evI_mv, evI_ne, eNe, eqv_i, evI_pk, ePk, ev_t', ev_c', lk_cons, keq64, brec_t, brec_f, and_t, and_f, not_t, not_f, nbeq, nble, decide_true, decide_false, reduceIte, Nat.reduceEqDiff, h15, lnv_sv, List.length_cons, List.length_nil, idx_1, resA, lc, ne1, lt11]
  rfl
 ·rw [lk_outsT, if_pos (by decide)]; rfl
 ·intro q hq; rw [lk_outsT, if_neg hq]
theorem x3_34 (h15 : lk 15 T = .sv [resA id c] false) (h16 : lk 16 T = i j) {q : Bool} (hq : ltI (j : Int) 1 = q) : ∃ T', (∀ kn kx kr, code rec 0 r3_34 T n H kn kx kr = kn T' (n) (H)) /\ lk 165 T' = .bool q /\ ∀ q, q ∉ [165] -> lk q T' = lk q T := by
 apply Exists.intro
 refine ⟨fun kn kx kr => ?_, ?_, ?_⟩
 ·unfold r3_34; rw [code_rg]
  simp only [↓gs_o', ↓gs_nil', evI_fa, eFa, gp_nil, gp_agg, nth0, nthS, evI_ia, eIa, evI_ilss, eIlss, evI_ld, eLd, rd_ptr, rd_pv, rdb_row, evI_ln, evI_mv, ev_t', ev_c', lk_cons, keq64, brec_t, brec_f, and_t, and_f, not_t, not_f, nbeq, nble, decide_true, decide_false, reduceIte, Nat.reduceEqDiff, h15, h16, lnv_sv, List.length_cons, List.length_nil, idx_1, resA, lc, hq1 hq]
  rfl
 ·rw [lk_outsT, if_pos (by decide)]; rfl
 ·intro q hq; rw [lk_outsT, if_neg hq]
theorem x3_35 (h15 : lk 15 T = .sv [resA id c] false) (h16 : lk 16 T = i 0) {tl : List AV} (htl : tokA id c = .sv tl false) {ro : AV} (hc : rec 14 [tokA id c] 0 n H = some (.tup [.agg 74 [i id, i 1, ro, i c], i 0], n, H)) : ∃ T', (∀ kn kx kr, code rec 0 r3_35 T n H kn kx kr = kn T' (n + 1) ((n, .row [.agg 74 [i id, i 1, ro, i c]] false) :: H)) /\ lk 17 T' = .ptr n 0 [] 75 /\ lk 18 T' = i 0 /\ ∀ q, q ∉ [17, 18] -> lk q T' = lk q T := by
 apply Exists.intro
 refine ⟨fun kn kx kr => ?_, ?_, ?_, ?_⟩
 ·unfold r3_35; rw [code_rg]
  rw [htl] at hc
  simp only [↓gs_o', ↓gs_nil', ↓gs_n', evI_al, evI_ca, evs_cons', evs_nil', evI_ex, eEx, nth0, nthS, evI_fa, eFa, gp_nil, gp_agg, evI_ia, eIa, evI_ld, eLd, rd_ptr, rd_pv, rdb_row, evI_mv, evI_sa, eSa, wr_ptr, wrb_row, sp_nil, sp_agg, lset0, ev_t', ev_c', lk_cons, keq64, brec_t, brec_f, and_t, and_f, not_t, not_f, nbeq, nble, decide_true, decide_false, reduceIte, Nat.reduceEqDiff, h15, h16, idx_1, resA, htl, lc, call_at hc, z74, qi, like, hk_at (hget_top n _ _), Nat.zero_le, decide_true, hset_top]
  rfl
 ·rw [lk_outsT, if_pos (by decide)]; rfl
 ·rw [lk_outsT, if_pos (by decide)]; rfl
 ·intro q hq; rw [lk_outsT, if_neg hq]
theorem x3_36 {b d : Nat} {ro : AV} {mt : List AV} (h18 : lk 18 T = i 0) (h17 : lk 17 T = .ptr b 0 [] 75) (bb : hget b H = some (.row [.agg 74 [i id, i 1, ro, i c]] false)) (h1 : 1 <= id) (h7 : lk 7 T = i m) (hm : id <= m) (h12 : lk 12 T = .ptr d 0 [] 60) (bd : hget d H = some (.row [.agg 59 mt] false)) (hid : id < 10) (hmt : ∀ {α : Type} (f : AV -> Option α), nth mt id f = f (.bool false)) : ∃ T', (∀ kn kx kr, code rec 0 r3_36 T n H kn kx kr = kn T' (n) (H)) /\ lk 197 T' = .bool false /\ ∀ q, q ∉ [197] -> lk q T' = lk q T := by
 apply Exists.intro
 refine ⟨fun kn kx kr => ?_, ?_, ?_⟩
 ·unfold r3_36; rw [code_rg]
  simp only [↓gs_o', ↓gs_nil', ↓gs_gt, ↓gs_g0, ↓gs_g1, evI_fa, eFa, gp_nil, gp_agg, nth0, nthS, evI_ia, eIa, evI_igtr, eIgtr, evI_ilss, eIlss, evI_ld, eLd, rd_ptr, rd_pv, rdb_row, evI_mv, evI_ne, eNe, eqv_i, evI_pk, ePk, ev_t', ev_c', lk_cons, keq64, brec_t, brec_f, and_t, and_f, not_t, not_f, nbeq, nble, decide_true, decide_false, reduceIte, Nat.reduceEqDiff, h18, h17, hk_at bb, r64_ge1 h1, h7, r64_ge hm, h12, hk_at bd, ne0, snoc_nil, hmt, idx_met hid]
  rfl
 ·rw [lk_outsT, if_pos (by decide)]; rfl
 ·intro q hq; rw [lk_outsT, if_neg hq]
theorem x3_37 {b d : Nat} {ro : AV} {mt : List AV} (h17 : lk 17 T = .ptr b 0 [] 75) (bb : hget b H = some (.row [.agg 74 [i id, i 1, ro, i c]] false)) (h12 : lk 12 T = .ptr d 0 [] 60) (bd : hget d H = some (.row [.agg 59 mt] false)) (hid : id < 10) (hmt : ∀ {α : Type} (f : AV -> Option α), nth mt id f = f (.bool false)) : ∃ T', (∀ kn kx kr, code rec 0 r3_37 T n H kn kx kr = kn T' (n) (hset d (.row [.agg 59 (lset mt id (.bool true))] false) H)) /\ ∀ q, q ∉ [] -> lk q T' = lk q T := by
 apply Exists.intro
 refine ⟨fun kn kx kr => ?_, ?_⟩
 ·unfold r3_37; rw [code_rg]
  simp only [↓gs_o', ↓gs_nil', ↓gs_n', evI_fa, eFa, gp_nil, gp_agg, nth0, nthS, evI_ia, eIa, evI_ld, eLd, rd_ptr, rd_pv, rdb_row, evI_st, eSt, wr_ptr, wrb_row, sp_nil, sp_agg, lset0, ev_t', ev_c', lk_cons, keq64, brec_t, brec_f, and_t, and_f, not_t, not_f, nbeq, nble, decide_true, decide_false, reduceIte, Nat.reduceEqDiff, h17, hk_at bb, h12, hk_at bd, snoc_nil, hmt, idx_met hid, like, lc, Nat.zero_le, decide_true]
  rfl
 ·intro q hq; rw [lk_outsT, if_neg hq]
theorem x3_41 (h13 : lk 13 T = i m) (h7 : lk 7 T = i m) (hc : rec 15 [] 0 n H = some (.bool true, n, H)) : ∃ T', (∀ kn kx kr, code rec 0 r3_41 T n H kn kx kr = kn T' (n) (H)) /\ lk 2 T' = .bool true /\ ∀ q, q ∉ [2] -> lk q T' = lk q T := by
 apply Exists.intro
 refine ⟨fun kn kx kr => ?_, ?_, ?_⟩
 ·unfold r3_41; rw [code_rg]
  simp only [↓gs_o', ↓gs_nil', ↓gs_gt, ↓gs_g0, ↓gs_g1, evI_ca, evs_cons', evs_nil', evI_eq, eEq, eqv_i, evI_mv, evI_pk, ePk, ev_t', ev_c', lk_cons, keq64, brec_t, brec_f, and_t, and_f, not_t, not_f, nbeq, nble, decide_true, decide_false, reduceIte, Nat.reduceEqDiff, h13, h7, beq_self, call_at hc]
  rfl
 ·rw [lk_outsT, if_pos (by decide)]; rfl
 ·intro q hq; rw [lk_outsT, if_neg hq]
end
end Go.Proofs.YtgaghaggiblabaaGreatDoor.Ev.T
namespace Go.Proofs.YtgaghaggiblabaaGreatDoor.Ev.T
open Go Go.RowKit
structure CallR (rec : Rec) (Lv : AV) (L : List Int) : Prop where
 c10 : ∀ {m : Nat}, 1 <= m -> m <= 1000 -> ∀ {n : Nat} {H : Hp}, RdOk Lv L H -> ∃ (r : Nat) (H' : Hp), r < m /\ rec 10 [.ptr 0 0 [] 85, i m] 0 n H = some (i r, n, H') /\ RdOk Lv L H' /\ ∀ b, b ≠ 0 -> hget b H' = hget b H
 c5 : ∀ {m : Nat}, 1 <= m -> m <= 1000 -> ∀ {n : Nat} {H : Hp}, RdOk Lv L H -> ∃ (r : Nat) (H' : Hp), 1 <= r /\ r <= m /\ rec 5 [.ptr 0 0 [] 85, i 1, i m] 0 n H = some (i r, n, H') /\ RdOk Lv L H' /\ ∀ b, b ≠ 0 -> hget b H' = hget b H
 c11 : ∀ {n : Nat} {H : Hp}, RdOk Lv L H -> ∃ b, rec 11 [.ptr 0 0 [] 85] 0 n H = some (.bool b, n, H)
structure Fin3 (n : Nat) (ts : List AV) (ids cs : Nat -> Nat) : Prop where
 len : ts.length = 2 * n
 tk : ∀ q (h : n + q < ts.length), q < n -> ∃ f d, ts[n + q] = tkF' f d (.sv [resA (ids q) (cs q)] false)
 b1 : ∀ q, q < n -> 1 <= ids q
 bn : ∀ q, q < n -> ids q <= n
 bc : ∀ q, q < n -> cs q < 3
 ne : ∀ q q', q < n -> q' < n -> q ≠ q' -> ids q ≠ ids q'
structure Call3 (rec : Rec) (live n : Nat) (A B D : Nat -> Nat -> Prop) (op : Nat -> List Nat) : Prop where
 c6 : ∃ w, A w 0 /\ ∀ m H, rec 6 [setupA live] 0 m H = some (.tup [.ob w 45, i 0], m, H)
 c7a : ∀ {w : Nat}, A w 0 -> ∀ m H, rec 7 [.ob w 45, setupA live] 0 m H = some (.bool true, m, H)
 c8a : ∀ {w j : Nat}, A w j -> j < n -> ∃ w' x, A w' (j + 1) /\ ∀ m H, rec 8 [.ob w 45, invSB] 0 m H = some (.tup [.ob w' 45, x, i 0], m, H)
 c9a : ∀ {w : Nat}, A w n -> ∃ w' x, B w' 0 /\ ∀ m H, rec 9 [.ob w 45] 0 m H = some (.tup [.ob w' 45, x, i 0], m, H)
 c7b : ∀ {w : Nat}, B w 0 -> ∀ m H, rec 7 [.ob w 45, setupA live] 0 m H = some (.bool true, m, H)
 c8b : ∀ {w r : Nat}, B w r -> r < n -> ∀ {h : Nat}, h < 3 -> ∃ w' x, B w' (r + 1) /\ ∀ wm m H, rec 8 [.ob w 45, invRA h] wm m H = some (.tup [.ob w' 45, x, i 0], m, H)
 bd : ∀ {w : Nat}, B w n -> D w 0
 c12 : ∀ {w p : Nat}, D w p -> ∀ m H, rec 12 [.ob w 45] 0 m H = some (opA (op w), m, H)
 len : ∀ {w p : Nat}, D w p -> (op w).length <= 6
 c13 : ∀ {w p : Nat}, D w p -> p < 150 -> ∀ {k : Nat}, k < (op w).length -> ∃ w', D w' (p + 1) /\ ∀ wm m H, rec 13 [.ob w 45, i k] wm m H = some (.tup [.ob w' 45, i 0], m, H)
 c7d : ∀ {w p : Nat}, D w p -> p <= 150 -> ∀ m H, rec 7 [.ob w 45, setupA live] 0 m H = some (.bool true, m, H)
 c9d : ∀ {w p : Nat}, D w p -> p <= 150 -> ∃ s ar ts lg t hs x ids cs, Fin3 n ts ids cs /\ (∀ m H, rec 9 [.ob w 45] 0 m H = some (.tup [.agg 44 [s, ar, .sv ts false, lg, t, hs], x, i 0], m, H)) /\ ∀ m H, rec 7 [.agg 44 [s, ar, .sv ts false, lg, t, hs], setupA live] 0 m H = some (.bool true, m, H)
 c14 : ∀ {id c : Nat}, 1 <= id -> id <= 6 -> c < 3 -> ∃ ro, ∀ m H, rec 14 [tokA id c] 0 m H = some (.tup [.agg 74 [i id, i 1, ro, i c], i 0], m, H)
 c15 : ∀ m H, rec 15 [] 0 m H = some (.bool true, m, H)
structure E3 (T : Tm) (H : Hp) (Lv : AV) (L : List Int) (live n w : Nat) : Prop where
 t3 : lk 3 T = .ptr 0 0 [] 85
 t4 : lk 4 T = .ptr 1 0 [] 28
 t5 : lk 5 T = .ptr 2 0 [] 45
 t7 : lk 7 T = i n
 b0 : RdOk Lv L H
 b1 : hget 1 H = some (.row [setupA live] false)
 b2 : hget 2 H = some (.row [.ob w 45] false)
section
variable {rec : Rec} {live n : Nat} {A B D : Nat -> Nat -> Prop} {op : Nat -> List Nat} {Lv : AV} {L : List Int}
theorem E3.fr {T T' : Tm} {H : Hp} {w : Nat} (h : E3 T H Lv L live n w) {outs : List Nat} (hf : ∀ q, q ∉ outs -> lk q T' = lk q T) (h3 : 3 ∉ outs) (h4 : 4 ∉ outs) (h5 : 5 ∉ outs) (h7 : 7 ∉ outs) : E3 T' H Lv L live n w :=
 ⟨by rw [hf 3 h3]; exact h.t3, by rw [hf 4 h4]; exact h.t4, by rw [hf 5 h5]; exact h.t5, by rw [hf 7 h7]; exact h.t7, h.b0, h.b1, h.b2⟩
theorem E3.put {T : Tm} {H H' : Hp} {w w' : Nat} (h : E3 T H Lv L live n w) (h2 : hget 2 H' = some (.row [.ob w 45] false)) (h0 : RdOk Lv L H') (h1 : hget 1 H' = some (.row [setupA live] false)) : E3 T (hset 2 (.row [.ob w' 45] false) H') Lv L live n w' := by
 obtain ⟨pos, hp, hb⟩ := h0
 exact ⟨h.t3, h.t4, h.t5, h.t7, ⟨pos, hp, by rw [hget_hset, if_neg (by decide)]; exact hb⟩, by rw [hget_hset, if_neg (by decide)]; exact h1, by rw [hget_hset, if_pos rfl, h2]; rfl⟩
theorem aft {H H1 : Hp} {ab W : AB} (h1 : ∀ b, b ≠ 0 -> hget b H1 = hget b [(0, ab)]) (hr : RdOk Lv L H1) {x : AB} (hx : hget 1 H = some x) :
  hget 2 (happ H1 (happ (hdel 0 (hdel 2 ((2, W) :: hdel 2 H))) [(2, W)])) = some W /\ RdOk Lv L (happ H1 (happ (hdel 0 (hdel 2 ((2, W) :: hdel 2 H))) [(2, W)])) /\ hget 1 (happ H1 (happ (hdel 0 (hdel 2 ((2, W) :: hdel 2 H))) [(2, W)])) = some x := by
 have e : ∀ b, b ≠ 0 -> hget b H1 = none := fun b hb => by rw [h1 b hb, hget_cons, if_neg (fun e => hb e.symm)]; rfl
 refine ⟨?_, ?_, ?_⟩
 ·rw [hget_happ, e 2 (by decide), hget_happ, hget_hdel, if_neg (by decide), hget_hdel, if_pos rfl, hget_cons, if_pos rfl]; rfl
 ·obtain ⟨pos, hp, hb⟩ := hr
  exact ⟨pos, hp, by rw [hget_happ, hb]; rfl⟩
 ·rw [hget_happ, e 1 (by decide), hget_happ, hget_hdel, if_neg (by decide), hget_hdel, if_neg (by decide), hget_cons, if_neg (by decide), hget_hdel, if_neg (by decide), hx]; rfl
theorem loop0 (hc : Call3 rec live n A B D op) (hn6 : n <= 6) : ∀ (q : Nat) {T : Tm} {H : Hp} {m w j fuel : Nat}, E3 T H Lv L live n w -> 3 <= m -> A w j -> lk 8 T = i j -> j + q = n -> q < fuel ->
  ∃ T' m' H' w', (∀ (kx : Nat -> Kt) (kr : Kt), lp (code rec 0 lp0) kx kr fuel T m H = kx 0 T' m' H') /\ E3 T' H' Lv L live n w' /\ 3 <= m' /\ A w' n := by
 intro q
 induction q with
 | zero =>
  intro T H m w j fuel hE hm hA h8 hj hf
  obtain ⟨fuel, rfl⟩ : ∃ g, fuel = g + 1 := ⟨fuel - 1, by omega⟩
  obtain ⟨T1, e1, a41, f1⟩ := x3_7 (rec := rec) (n := m) (H := H) h8 hE.t7 (r64_ge (show n <= j by omega))
  refine ⟨T1, m, H, w, fun kx kr => ?_, hE.fr f1 (by decide) (by decide) (by decide) (by decide), hm, by rw [show n = j by omega]; exact hA⟩
  rw [lp_S]
  unfold lp0
  simp only [code_seq, e1, ev_t', code_cf, a41, code_exit]
 | succ q ih =>
  intro T H m w j fuel hE hm hA h8 hj hf
  obtain ⟨fuel, rfl⟩ : ∃ g, fuel = g + 1 := ⟨fuel - 1, by omega⟩
  obtain ⟨T1, e1, a41, f1⟩ := x3_7 (rec := rec) (n := m) (H := H) h8 hE.t7 (r64_lt (show j < n by omega))
  have E1 := hE.fr f1 (by decide) (by decide) (by decide) (by decide)
  obtain ⟨w', x, hA', c8⟩ := hc.c8a hA (by omega)
  have hg : ∀ b, b ≠ m -> hget b (hdel m ((m, .row [.str [109]] false) :: H)) = hget b H := fun b hb => by rw [hget_hdel, if_neg hb, hget_cons, if_neg (fun e => hb e.symm)]
  have hg2 : hget 2 (hdel m ((m, .row [.str [109]] false) :: H)) = some (.row [.ob w 45] false) := by rw [hg 2 (by omega)]; exact E1.b2
  obtain ⟨T2, e2, a6, f2⟩ := x3_8 (rec := rec) (n := m) (T := T1) (x := x) E1.t5 E1.b2 (by omega) (fun n H => c8 n H) hg2
  have E2 : E3 T2 (hset 2 (.row [.ob w' 45] false) (hdel m ((m, .row [.str [109]] false) :: H))) Lv L live n w' := by
   obtain ⟨pos, hp, hb⟩ := E1.b0
   exact (E1.put hg2 ⟨pos, hp, by rw [hg 0 (by omega)]; exact hb⟩ (by rw [hg 1 (by omega)]; exact E1.b1)).fr f2 (by decide) (by decide) (by decide) (by decide)
  obtain ⟨T3, e3, a53, f3⟩ := x3_9 (rec := rec) (n := m + 1) (H := hset 2 (.row [.ob w' 45] false) (hdel m ((m, .row [.str [109]] false) :: H))) a6
  have E3' := E2.fr f3 (by decide) (by decide) (by decide) (by decide)
  obtain ⟨T4, e4, a8, f4⟩ := x3_10 (rec := rec) (n := m + 1) (T := T3) (H := hset 2 (.row [.ob w' 45] false) (hdel m ((m, .row [.str [109]] false) :: H))) (j := j) (by rw [f3 8 (by decide), f2 8 (by decide), f1 8 (by decide)]; exact h8) (by omega)
  have E4 := E3'.fr f4 (by decide) (by decide) (by decide) (by decide)
  obtain ⟨T5, m5, H5, w5, e5, E5, hm5, hA5⟩ := ih (fuel := fuel) (m := m + 1) E4 (by omega) hA' a8 (by omega) (by omega)
  refine ⟨T5, m5, H5, w5, fun kx kr => ?_, E5, hm5, hA5⟩
  rw [lp_S]
  have := e5 kx kr
  unfold lp0
  simp only [code_seq, code_block, e1, ev_t', code_ct, code_cf, a41, code_skip, e2, e3, a53, e4]
  exact this
theorem loop2 (hr : CallR rec Lv L) (hc : Call3 rec live n A B D op) (hn6 : n <= 6) : ∀ (q : Nat) {T : Tm} {H : Hp} {m w j fuel : Nat}, E3 T H Lv L live n w -> B w j -> lk 9 T = i j -> j + q = n -> q < fuel ->
  ∃ T' H' w', (∀ (kx : Nat -> Kt) (kr : Kt), lp (code rec 0 lp2) kx kr fuel T m H = kx 2 T' m H') /\ E3 T' H' Lv L live n w' /\ B w' n := by
 intro q
 induction q with
 | zero =>
  intro T H m w j fuel hE hB h9 hj hf
  obtain ⟨fuel, rfl⟩ : ∃ g, fuel = g + 1 := ⟨fuel - 1, by omega⟩
  obtain ⟨T1, e1, a70, f1⟩ := x3_14 (rec := rec) (n := m) (H := H) h9 hE.t7 (r64_ge (show n <= j by omega))
  refine ⟨T1, H, w, fun kx kr => ?_, hE.fr f1 (by decide) (by decide) (by decide) (by decide), by rw [show n = j by omega]; exact hB⟩
  rw [lp_S]
  unfold lp2
  simp only [code_seq, e1, ev_t', code_cf, a70, code_exit]
 | succ q ih =>
  intro T H m w j fuel hE hB h9 hj hf
  obtain ⟨fuel, rfl⟩ : ∃ g, fuel = g + 1 := ⟨fuel - 1, by omega⟩
  obtain ⟨T1, e1, a70, f1⟩ := x3_14 (rec := rec) (n := m) (H := H) h9 hE.t7 (r64_lt (show j < n by omega))
  have E1 := hE.fr f1 (by decide) (by decide) (by decide) (by decide)
  obtain ⟨pos, hp, hb⟩ := E1.b0
  obtain ⟨r, H1, hr3, c10, hR1, hot⟩ := hr.c10 (m := 3) (by decide) (by decide) (n := m) (H := [(0, rdB Lv pos)]) ⟨pos, hp, hget_top 0 _ _⟩
  obtain ⟨w', x, hB', c8⟩ := hc.c8b hB (by omega) hr3
  obtain ⟨g2, g0, g1⟩ := aft (H := H) (W := .row [.ob w 45] false) hot hR1 E1.b1
  obtain ⟨T2, e2, a6, f2⟩ := x3_15 (rec := rec) (n := m) (T := T1) (H := H) (x := x) (r := r) E1.t3 E1.t5 hb E1.b2 c10 c8 g2
  have E2 := (E1.put (w' := w') g2 g0 g1).fr f2 (by decide) (by decide) (by decide) (by decide)
  obtain ⟨T3, e3, a83, f3⟩ := x3_16 (rec := rec) (n := m) (H := hset 2 (.row [.ob w' 45] false) (happ H1 (happ (hdel 0 (hdel 2 ((2, .row [.ob w 45] false) :: hdel 2 H))) [(2, .row [.ob w 45] false)]))) a6
  have E3' := E2.fr f3 (by decide) (by decide) (by decide) (by decide)
  obtain ⟨T4, e4, a9, f4⟩ := x3_17 (rec := rec) (n := m) (T := T3) (H := hset 2 (.row [.ob w' 45] false) (happ H1 (happ (hdel 0 (hdel 2 ((2, .row [.ob w 45] false) :: hdel 2 H))) [(2, .row [.ob w 45] false)]))) (j := j) (by rw [f3 9 (by decide), f2 9 (by decide), f1 9 (by decide)]; exact h9) (by omega)
  have E4 := E3'.fr f4 (by decide) (by decide) (by decide) (by decide)
  obtain ⟨T5, H5, w5, e5, E5, hB5⟩ := ih (fuel := fuel) (m := m) E4 hB' a9 (by omega) (by omega)
  refine ⟨T5, H5, w5, fun kx kr => ?_, E5, hB5⟩
  rw [lp_S]
  have := e5 kx kr
  unfold lp2
  simp only [code_seq, code_block, e1, ev_t', code_ct, code_cf, a70, code_skip, e2, e3, a83, e4]
  exact this
theorem loop4 (hr : CallR rec Lv L) (hc : Call3 rec live n A B D op) : ∀ (q : Nat) {T : Tm} {H : Hp} {m w j fuel : Nat}, E3 T H Lv L live n w -> D w j -> lk 10 T = i j -> j + q = 150 -> q < fuel ->
  ∃ T' H' w' p', (∀ (kx : Nat -> Kt) (kr : Kt), lp (code rec 0 lp4) kx kr fuel T m H = kx 4 T' m H') /\ E3 T' H' Lv L live n w' /\ D w' p' /\ p' <= 150 := by
 intro q
 induction q with
 | zero =>
  intro T H m w j fuel hE hD h10 hj hf
  obtain ⟨fuel, rfl⟩ : ∃ g, fuel = g + 1 := ⟨fuel - 1, by omega⟩
  obtain ⟨T1, e1, a89, f1⟩ := x3_19e (rec := rec) (n := m) (H := H) h10 (show ¬ j < 150 by omega)
  refine ⟨T1, H, w, j, fun kx kr => ?_, hE.fr f1 (by decide) (by decide) (by decide) (by decide), hD, by omega⟩
  rw [lp_S]
  unfold lp4
  simp only [code_seq, e1, ev_t', code_cf, a89, code_exit]
 | succ q ih =>
  intro T H m w j fuel hE hD h10 hj hf
  obtain ⟨fuel, rfl⟩ : ∃ g, fuel = g + 1 := ⟨fuel - 1, by omega⟩
  obtain ⟨more, c11⟩ := hr.c11 (n := m) hE.b0
  obtain ⟨T1, e1, a89, f1⟩ := x3_19 (rec := rec) (n := m) (H := H) h10 hE.t3 (show j < 150 by omega) c11
  have E1 := hE.fr f1 (by decide) (by decide) (by decide) (by decide)
  cases more with
  | false =>
   refine ⟨T1, H, w, j, fun kx kr => ?_, E1, hD, by omega⟩
   rw [lp_S]
   unfold lp4
   simp only [code_seq, e1, ev_t', code_cf, a89, code_exit]
  | true =>
  obtain ⟨T2, e2, a11, f2⟩ := x3_20 (rec := rec) (n := m) (T := T1) E1.t5 E1.b2 (hc.c12 hD m H)
  have E2 := E1.fr f2 (by decide) (by decide) (by decide) (by decide)
  by_cases ho : (op w).length = 0
  ·obtain ⟨T3, e3, a96, f3⟩ := x3_21 (rec := rec) (n := m) (T := T2) (H := H) a11 (q := true) (by rw [ho]; rfl)
   refine ⟨T3, H, w, j, fun kx kr => ?_, E2.fr f3 (by decide) (by decide) (by decide) (by decide), hD, by omega⟩
   rw [lp_S]
   unfold lp4
   simp only [code_seq, code_block, e1, ev_t', code_ct, a89, code_skip, e2, e3, a96, code_exit, nbeq, Nat.reduceEqDiff, decide_false]
  ·obtain ⟨T3, e3, a96, f3⟩ := x3_21 (rec := rec) (n := m) (T := T2) (H := H) a11 (q := false) (by rw [beqI_eq]; exact beq_eq_false_iff_ne.2 (by omega))
   have E3' := E2.fr f3 (by decide) (by decide) (by decide) (by decide)
   obtain ⟨pos, hp, hb⟩ := E3'.b0
   have hl6 := hc.len hD
   obtain ⟨r, H1, hr3, c10, hR1, hot⟩ := hr.c10 (m := (op w).length) (by omega) (by omega) (n := m) (H := [(0, rdB Lv pos)]) ⟨pos, hp, hget_top 0 _ _⟩
   obtain ⟨w', hD', c13⟩ := hc.c13 hD (by omega) hr3
   obtain ⟨g2, g0, g1⟩ := aft (H := H) (W := .row [.ob w 45] false) hot hR1 E3'.b1
   obtain ⟨T4, e4, a6, f4⟩ := x3_22 (rec := rec) (n := m) (T := T3) (H := H) (r := r) E3'.t3 E3'.t5 hb E3'.b2 (by rw [f3 11 (by decide)]; exact a11) c10 c13 g2
   have E4 := (E3'.put (w' := w') g2 g0 g1).fr f4 (by decide) (by decide) (by decide) (by decide)
   obtain ⟨T5, e5, a112, f5⟩ := x3_23 (rec := rec) (n := m) (T := T4) (H := hset 2 (.row [.ob w' 45] false) (happ H1 (happ (hdel 0 (hdel 2 ((2, .row [.ob w 45] false) :: hdel 2 H))) [(2, .row [.ob w 45] false)]))) a6 E4.t4 E4.t5 E4.b1 E4.b2 (hc.c7d hD' (by omega) _ _)
   have E5 := E4.fr f5 (by decide) (by decide) (by decide) (by decide)
   obtain ⟨T6, e6, a10, f6⟩ := x3_24 (rec := rec) (n := m) (T := T5) (H := hset 2 (.row [.ob w' 45] false) (happ H1 (happ (hdel 0 (hdel 2 ((2, .row [.ob w 45] false) :: hdel 2 H))) [(2, .row [.ob w 45] false)]))) (j := j) (by rw [f5 10 (by decide), f4 10 (by decide), f3 10 (by decide), f2 10 (by decide), f1 10 (by decide)]; exact h10) (by omega)
   have E6 := E5.fr f6 (by decide) (by decide) (by decide) (by decide)
   obtain ⟨T7, H7, w7, p7, e7, E7, hD7, hp7⟩ := ih (fuel := fuel) (m := m) E6 hD' a10 (by omega) (by omega)
   refine ⟨T7, H7, w7, p7, fun kx kr => ?_, E7, hD7, hp7⟩
   rw [lp_S]
   have := e7 kx kr
   unfold lp4
   simp only [code_seq, code_block, e1, ev_t', code_ct, code_cf, a89, code_skip, e2, e3, a96, e4, e5, a112, e6]
   exact this
end
end Go.Proofs.YtgaghaggiblabaaGreatDoor.Ev.T
namespace Go.Proofs.YtgaghaggiblabaaGreatDoor.Ev.T
open Go Go.RowKit
section
variable {rec : Rec} {live n : Nat} {A B D : Nat -> Nat -> Prop} {op : Nat -> List Nat} {Lv : AV} {L : List Int}
variable {s ar lg t hs : AV} {ts : List AV} {ids cs : Nat -> Nat}
theorem nth_q : ∀ {l : List AV} {k : Nat} {a : AV} {α : Type} (f : AV -> Option α), l[k]? = some a -> nth l k f = f a := by
 intro l k a α f h
 obtain ⟨hk, e⟩ := List.getElem?_eq_some_iff.1 h
 rw [nth_at hk, e]
structure E6 (T : Tm) (H : Hp) (n : Nat) (W : AV) (bm m q : Nat) (mt : List AV) (ids : Nat -> Nat) : Prop where
 t5 : lk 5 T = .ptr 2 0 [] 45
 t7 : lk 7 T = i n
 t12 : lk 12 T = .ptr bm 0 [] 60
 t13 : lk 13 T = i q
 b2 : hget 2 H = some (.row [W] false)
 bb : hget bm H = some (.row [.agg 59 mt] false)
 b2m : 2 < m
 bmm : bm < m
 ne : bm ≠ 2
 mt : ∀ r, q <= r -> r < n -> mt[ids r]? = some (.bool false)
theorem E6.fr {T T' : Tm} {H : Hp} {W : AV} {bm m q : Nat} {mt : List AV} (h : E6 T H n W bm m q mt ids) {outs : List Nat} (hf : ∀ q, q ∉ outs -> lk q T' = lk q T) (h5 : 5 ∉ outs) (h7 : 7 ∉ outs) (h12 : 12 ∉ outs) (h13 : 13 ∉ outs) : E6 T' H n W bm m q mt ids :=
 ⟨by rw [hf 5 h5]; exact h.t5, by rw [hf 7 h7]; exact h.t7, by rw [hf 12 h12]; exact h.t12, by rw [hf 13 h13]; exact h.t13, h.b2, h.bb, h.b2m, h.bmm, h.ne, h.mt⟩
theorem lp8_step {T : Tm} {m : Nat} {H : Hp} {kn kr : Kt} {kx : Nat -> Kt} : code rec 0 lp8 T m H kn kx kr = code rec 0 (.seq (.seq r3_34 (.cond (.t 165) .skip (.exit 8))) (.seq (.block 9 (.seq r3_35 (.seq (.seq r3_36 (.cond (.t 197) rX .skip)) (.seq r3_37 r3_38)))) r3_39)) T m H kn kx kr := rfl
theorem lp6_step {T : Tm} {m : Nat} {H : Hp} {kn kr : Kt} {kx : Nat -> Kt} : code rec 0 lp6 T m H kn kx kr = code rec 0 (.seq (.seq r3_30 (.cond (.t 139) .skip (.exit 6))) (.seq (.block 7 (.seq r3_31 (.seq (.seq r3_32 (.cond (.t 158) rX .skip)) (.seq r3_33 (.block 8 (.loop lp8)))))) r3_40)) T m H kn kx kr := rfl
theorem loop8 (hc : Call3 rec live n A B D op) (hn6 : n <= 6) (hF : Fin3 n ts ids cs) {T : Tm} {H : Hp} {bm m q fuel : Nat} {mt : List AV} (hE : E6 T H n (.agg 44 [s, ar, .sv ts false, lg, t, hs]) bm m q mt ids) (hq : q < n) (h15 : lk 15 T = .sv [resA (ids q) (cs q)] false) (h16 : lk 16 T = i 0) (hf : 2 <= fuel) :
  ∃ T' H' mt', (∀ (kx : Nat -> Kt) (kr : Kt), lp (code rec 0 lp8) kx kr fuel T m H = kx 8 T' (m + 1) H') /\ E6 T' H' n (.agg 44 [s, ar, .sv ts false, lg, t, hs]) bm (m + 1) (q + 1) mt' ids /\ lk 14 T' = lk 14 T := by
 obtain ⟨fuel, rfl⟩ : ∃ g, fuel = g + 2 := ⟨fuel - 2, by omega⟩
 have i1 := hF.b1 q hq
 have i6 := hF.bn q hq
 obtain ⟨ro, c14⟩ := hc.c14 i1 (show ids q <= 6 by omega) (hF.bc q hq)
 obtain ⟨T1, e1, a165, f1⟩ := x3_34 (rec := rec) (n := m) (H := H) (j := 0) h15 h16 (q := true) rfl
 have E1 := hE.fr f1 (by decide) (by decide) (by decide) (by decide)
 obtain ⟨tl, htl⟩ : ∃ tl, tokA (ids q) (cs q) = .sv tl false := ⟨_, rfl⟩
 obtain ⟨T2, e2, a17, a18, f2⟩ := x3_35 (rec := rec) (n := m) (H := H) (T := T1) (id := ids q) (c := cs q) (by rw [f1 15 (by decide)]; exact h15) (by rw [f1 16 (by decide)]; exact h16) htl (c14 m H)
 have E2 : E6 T2 ((m, .row [.agg 74 [i (ids q), i 1, ro, i (cs q)]] false) :: H) n (.agg 44 [s, ar, .sv ts false, lg, t, hs]) bm (m + 1) q mt ids := by
  have h := E1.fr f2 (by decide) (by decide) (by decide) (by decide)
  have h1 := h.b2m
  have h2 := h.bmm
  exact ⟨h.t5, h.t7, h.t12, h.t13, by rw [hget_cons, if_neg (by omega)]; exact h.b2, by rw [hget_cons, if_neg (by omega)]; exact h.bb, by omega, by omega, h.ne, h.mt⟩
 have hmt : ∀ {α : Type} (f : AV -> Option α), nth mt (ids q) f = f (.bool false) := fun f => nth_q f (hE.mt q (Nat.le_refl q) hq)
 have hbm := hE.bmm
 obtain ⟨T3, e3, a197, f3⟩ := x3_36 (rec := rec) (n := m + 1) (H := (m, .row [.agg 74 [i (ids q), i 1, ro, i (cs q)]] false) :: H) (T := T2) (id := ids q) (c := cs q) a18 a17 (hget_top m _ _) i1 E2.t7 i6 E2.t12 E2.bb (by omega) hmt
 have E3' := E2.fr f3 (by decide) (by decide) (by decide) (by decide)
 obtain ⟨T4, e4, f4⟩ := x3_37 (rec := rec) (n := m + 1) (H := (m, .row [.agg 74 [i (ids q), i 1, ro, i (cs q)]] false) :: H) (T := T3) (id := ids q) (c := cs q) (by rw [f3 17 (by decide)]; exact a17) (hget_top m _ _) E3'.t12 E3'.bb (by omega) hmt
 have E4 := E3'.fr f4 (by decide) (by decide) (by decide) (by decide)
 obtain ⟨T5, e5, a13, f5⟩ := x3_38 (rec := rec) (n := m + 1) (H := hset bm (.row [.agg 59 (lset mt (ids q) (.bool true))] false) ((m, .row [.agg 74 [i (ids q), i 1, ro, i (cs q)]] false) :: H)) (j := q) E4.t13 (by omega)
 obtain ⟨T6, e6, a16, f6⟩ := x3_39 (rec := rec) (n := m + 1) (H := hset bm (.row [.agg 59 (lset mt (ids q) (.bool true))] false) ((m, .row [.agg 74 [i (ids q), i 1, ro, i (cs q)]] false) :: H)) (T := T5) (j := 0) (by rw [f5 16 (by decide), f4 16 (by decide), f3 16 (by decide), f2 16 (by decide), f1 16 (by decide)]; exact h16) (by decide)
 obtain ⟨T7, e7, a165', f7⟩ := x3_34 (rec := rec) (n := m + 1) (H := hset bm (.row [.agg 59 (lset mt (ids q) (.bool true))] false) ((m, .row [.agg 74 [i (ids q), i 1, ro, i (cs q)]] false) :: H)) (T := T6) (j := 0 + 1) (by rw [f6 15 (by decide), f5 15 (by decide), f4 15 (by decide), f3 15 (by decide), f2 15 (by decide), f1 15 (by decide)]; exact h15) a16 (q := false) rfl
 refine ⟨T7, hset bm (.row [.agg 59 (lset mt (ids q) (.bool true))] false) ((m, .row [.agg 74 [i (ids q), i 1, ro, i (cs q)]] false) :: H), lset mt (ids q) (.bool true), fun kx kr => ?_, ⟨?_, ?_, ?_, ?_, ?_, ?_, ?_, ?_, ?_, ?_⟩, ?_⟩
 ·rw [lp_S]
  have h2 : lp (code rec 0 lp8) kx kr (fuel + 1) T6 (m + 1) (hset bm (.row [.agg 59 (lset mt (ids q) (.bool true))] false) ((m, .row [.agg 74 [i (ids q), i 1, ro, i (cs q)]] false) :: H)) = kx 8 T7 (m + 1) (hset bm (.row [.agg 59 (lset mt (ids q) (.bool true))] false) ((m, .row [.agg 74 [i (ids q), i 1, ro, i (cs q)]] false) :: H)) := by
   rw [lp_S, lp8_step]
   simp only [code_seq, e7, ev_t', code_cf, a165', code_exit]
  rw [<- h2, lp8_step]
  simp only [code_seq, code_block, e1, ev_t', code_ct, code_cf, a165, code_skip, e2, e3, a197, e4, e5, e6]
 ·rw [f7 5 (by decide), f6 5 (by decide), f5 5 (by decide)]; exact E4.t5
 ·rw [f7 7 (by decide), f6 7 (by decide), f5 7 (by decide)]; exact E4.t7
 ·rw [f7 12 (by decide), f6 12 (by decide), f5 12 (by decide)]; exact E4.t12
 ·rw [f7 13 (by decide), f6 13 (by decide)]; exact a13
 ·rw [hget_hset, if_neg (fun e => E4.ne e.symm)]; exact E4.b2
 ·rw [hget_hset, if_pos rfl, E4.bb]; rfl
 ·exact E4.b2m
 ·exact E4.bmm
 ·exact E4.ne
 ·intro r hr hrn
  rw [lset_eq, List.getElem?_set_ne (hF.ne q r hq hrn (by omega))]
  exact hE.mt r (by omega) hrn
 ·rw [f7 14 (by decide), f6 14 (by decide), f5 14 (by decide), f4 14 (by decide), f3 14 (by decide), f2 14 (by decide), f1 14 (by decide)]
theorem loop6 (hc : Call3 rec live n A B D op) (hn6 : n <= 6) (hF : Fin3 n ts ids cs) : ∀ (r : Nat) {T : Tm} {H : Hp} {bm m q fuel : Nat} {mt : List AV}, E6 T H n (.agg 44 [s, ar, .sv ts false, lg, t, hs]) bm m q mt ids -> lk 14 T = i (n + q : Nat) -> q + r = n -> r < fuel ->
  ∃ T' m' H' mt', (∀ (kx : Nat -> Kt) (kr : Kt), lp (code rec 0 lp6) kx kr fuel T m H = kx 6 T' m' H') /\ E6 T' H' n (.agg 44 [s, ar, .sv ts false, lg, t, hs]) bm m' n mt' ids := by
 intro r
 induction r with
 | zero =>
  intro T H bm m q fuel mt hE h14 hq hf
  obtain ⟨fuel, rfl⟩ : ∃ g, fuel = g + 1 := ⟨fuel - 1, by omega⟩
  obtain ⟨T1, e1, a139, f1⟩ := x3_30 (rec := rec) (n := m) (H := H) h14 hE.t7 (by omega) (q := false) (r64_ge (by omega))
  refine ⟨T1, m, H, mt, fun kx kr => ?_, by rw [show q = n by omega] at hE; exact hE.fr f1 (by decide) (by decide) (by decide) (by decide)⟩
  rw [lp_S, lp6_step]
  simp only [code_seq, e1, ev_t', code_cf, a139, code_exit]
 | succ r ih =>
  intro T H bm m q fuel mt hE h14 hq hf
  obtain ⟨fuel, rfl⟩ : ∃ g, fuel = g + 1 := ⟨fuel - 1, by omega⟩
  obtain ⟨T1, e1, a139, f1⟩ := x3_30 (rec := rec) (n := m) (H := H) h14 hE.t7 (by omega) (q := true) (r64_lt (by omega))
  have E1 := hE.fr f1 (by decide) (by decide) (by decide) (by decide)
  have hlen := hF.len
  obtain ⟨f, d, htk⟩ := hF.tk q (by omega) (by omega)
  obtain ⟨T2, e2, a15, f2⟩ := x3_31 (rec := rec) (n := m) (T := T1) (j := n + q) E1.t5 E1.b2 (by rw [f1 14 (by decide)]; exact h14) (by omega) htk
  have E2 := E1.fr f2 (by decide) (by decide) (by decide) (by decide)
  obtain ⟨T3, e3, a158, f3⟩ := x3_32 (rec := rec) (n := m) (T := T2) (H := H) (id := ids q) (c := cs q) a15
  have E3' := E2.fr f3 (by decide) (by decide) (by decide) (by decide)
  obtain ⟨T4, e4, a16, f4⟩ := x3_33 (rec := rec) (n := m) (T := T3) (H := H)
  have E4 := E3'.fr f4 (by decide) (by decide) (by decide) (by decide)
  obtain ⟨T5, H5, mt5, e5, E5, g14⟩ := loop8 hc hn6 hF (fuel := 1000000) E4 (by omega) (by rw [f4 15 (by decide), f3 15 (by decide)]; exact a15) a16 (by omega)
  obtain ⟨T6, e6, a14, f6⟩ := x3_40 (rec := rec) (n := m + 1) (T := T5) (H := H5) (j := n + q) (by rw [g14, f4 14 (by decide), f3 14 (by decide), f2 14 (by decide), f1 14 (by decide)]; exact h14) (by omega)
  have E6' := E5.fr f6 (by decide) (by decide) (by decide) (by decide)
  obtain ⟨T7, m7, H7, mt7, e7, E7⟩ := ih (fuel := fuel) E6' a14 (by omega) (by omega)
  refine ⟨T7, m7, H7, mt7, fun kx kr => ?_, E7⟩
  rw [lp_S, lp6_step]
  have e8 : ∀ (kn : Kt) (kx : Nat -> Kt) (kr : Kt), code rec 0 (.block 8 (.loop lp8)) T4 m H kn kx kr = kn T5 (m + 1) H5 := by
   intro kn kx kr
   rw [code_block, code_loop, e5]
   rfl
  simp only [code_seq, e1, ev_t', code_ct, code_cf, a139, code_skip, e2, ]
  rw [code_block]
  refine Eq.trans (code_seq.trans ((e2 _ _ _).trans (code_seq.trans (code_seq.trans ((e3 _ _ _).trans ((code_cf (by rw [ev_t', a158])).trans (code_skip.trans (code_seq.trans ((e4 _ _ _).trans (e8 _ _ _)))))))))) ?_
  exact (e6 _ _ _).trans (e7 _ _)
theorem seq_e {a b : C} {T T' : Tm} {m m' : Nat} {H H' : Hp} {kn kr : Kt} {kx : Nat -> Kt} (h : ∀ (kn : Kt) (kx : Nat -> Kt) (kr : Kt), code rec 0 a T m H kn kx kr = kn T' m' H') : code rec 0 (.seq a b) T m H kn kx kr = code rec 0 b T' m' H' kn kx kr := code_seq.trans (h _ _ _)
theorem seq_c {a b : C} {T T' T2 : Tm} {m m' m2 : Nat} {H H' H2 : Hp} (h : ∀ (kn : Kt) (kx : Nat -> Kt) (kr : Kt), code rec 0 a T m H kn kx kr = kn T' m' H') (h2 : ∀ (kn : Kt) (kx : Nat -> Kt) (kr : Kt), code rec 0 b T' m' H' kn kx kr = kn T2 m2 H2) : ∀ (kn : Kt) (kx : Nat -> Kt) (kr : Kt), code rec 0 (.seq a b) T m H kn kx kr = kn T2 m2 H2 := fun kn kx kr => (seq_e h).trans (h2 kn kx kr)
theorem cond_e {x : C} {d : Nat} {T : Tm} {m : Nat} {H : Hp} (h : lk d T = .bool false) : ∀ (kn : Kt) (kx : Nat -> Kt) (kr : Kt), code rec 0 (.cond (.t d) x .skip) T m H kn kx kr = kn T m H := fun kn kx kr => (code_cf (c := .t d) (T := T) h).trans code_skip
theorem loop_e {id : Nat} {b : C} {T T' : Tm} {m m' : Nat} {H H' : Hp} (h : ∀ (kx : Nat -> Kt) (kr : Kt), lp (code rec 0 b) kx kr 1000000 T m H = kx id T' m' H') : ∀ (kn : Kt) (kx : Nat -> Kt) (kr : Kt), code rec 0 (.block id (.loop b)) T m H kn kx kr = kn T' m' H' := fun kn kx kr => by
 rw [code_block, code_loop, h]
 show (Bool.rec (kx id T' m' H') (kn T' m' H') (Nat.beq id id) : Out) = _
 rw [nbeq, decide_eq_true rfl]
theorem con_true {a : AV} (h4 : rec 4 [a] 0 0 [] = some (.ptr 0 0 [] 85, 1, [(0, rdB Lv 0)])) (hr : CallR rec Lv L) (hc : ∀ live n, 1 <= live -> live <= 3 -> 1 <= n -> n <= 6 -> ∃ A B D op, Call3 rec live n A B D op) : body rec f3 [a] 0 0 [] = some (.bool true, 0, []) := by
 obtain ⟨T0, e0, _, f0⟩ := x3_0 (rec := rec) (n := 0) (H := []) (T := [(0, a)])
 obtain ⟨T1, e1, a3, f1⟩ := x3_1 (rec := rec) (n := 0) (H := []) (T := T0) (by rw [f0 0 (by decide)]; rfl) h4
 have hR : RdOk Lv L [(0, rdB Lv 0)] := ⟨0, Nat.zero_le _, rfl⟩
 obtain ⟨live, H1, hl1, hl3, c5, hR1, ho1⟩ := hr.c5 (m := 3) (by decide) (by decide) (n := 1) hR
 obtain ⟨T2, e2, a4, f2⟩ := x3_2 (rec := rec) (n := 1) (T := T1) (live := live) a3 c5
 obtain ⟨A1, B1, D1, op1, hc1⟩ := hc live 1 hl1 hl3 (by decide) (by decide)
 obtain ⟨w, hA1, c6⟩ := hc1.c6
 obtain ⟨T3, e3, a5, a6, f3⟩ := x3_3 (rec := rec) (n := 2) (T := T2) (H := (1, .row [setupA live] false) :: H1) (w := w) a4 (hget_top 1 _ _) (c6 2 _)
 have g4 : lk 4 T3 = .ptr 1 0 [] 28 := by rw [f3 4 (by decide)]; exact a4
 have g3 : lk 3 T3 = .ptr 0 0 [] 85 := by rw [f3 3 (by decide), f2 3 (by decide)]; exact a3
 have b1 : hget 1 ((2, AB.row [.ob w 45] false) :: (1, .row [setupA live] false) :: H1) = some (.row [setupA live] false) := by rw [hget_cons, if_neg (by decide)]; exact hget_top 1 _ _
 have b2 : hget 2 ((2, AB.row [.ob w 45] false) :: (1, .row [setupA live] false) :: H1) = some (.row [.ob w 45] false) := hget_top 2 _ _
 have b0 : RdOk Lv L ((2, AB.row [.ob w 45] false) :: (1, .row [setupA live] false) :: H1) := by
  obtain ⟨pos, hp, hb⟩ := hR1
  exact ⟨pos, hp, by rw [hget_cons, if_neg (by decide), hget_cons, if_neg (by decide)]; exact hb⟩
 obtain ⟨T4, e4, a36, f4⟩ := x3_4 (rec := rec) (n := 3) (T := T3) (H := (2, .row [.ob w 45] false) :: (1, .row [setupA live] false) :: H1) (w := w) (live := live) a6 g4 a5 b1 b2 (hc1.c7a hA1 3 _)
 obtain ⟨n, H5, hn1, hn6, c5', hR5, ho5⟩ := hr.c5 (m := 6) (by decide) (by decide) (n := 3) b0
 obtain ⟨T5, e5, a7, f5⟩ := x3_5 (rec := rec) (n := 3) (T := T4) (m := n) (by rw [f4 3 (by decide)]; exact g3) c5'
 obtain ⟨A, B, D, op, hc2⟩ := hc live n hl1 hl3 hn1 hn6
 have hA : A w 0 := by
  obtain ⟨w', hA, c6'⟩ := hc2.c6
  have h := (c6 0 []).symm.trans (c6' 0 [])
  have : w = w' := by
   simp only [Option.some.injEq, Prod.mk.injEq, AV.tup.injEq, List.cons.injEq, AV.ob.injEq] at h
   exact h.1.1.1
  rw [this]; exact hA
 have E5 : E3 T5 H5 Lv L live n w := ⟨by rw [f5 3 (by decide), f4 3 (by decide)]; exact g3, by rw [f5 4 (by decide), f4 4 (by decide)]; exact g4, by rw [f5 5 (by decide), f4 5 (by decide)]; exact a5, a7, hR5, by rw [ho5 1 (by decide)]; exact b1, by rw [ho5 2 (by decide)]; exact b2⟩
 obtain ⟨T6, e6, a8, f6⟩ := x3_6 (rec := rec) (n := 3) (T := T5) (H := H5)
 obtain ⟨T7, m7, H7, w7, e7, E7, hm7, hA7⟩ := loop0 hc2 hn6 n (fuel := 1000000) (m := 3) (j := 0) (E5.fr f6 (by decide) (by decide) (by decide) (by decide)) (Nat.le_refl 3) hA a8 (by omega) (by omega)
 obtain ⟨w8, x8, hB8, c9⟩ := hc2.c9a hA7
 obtain ⟨T8, e8, a6', f8⟩ := x3_11 (rec := rec) (n := m7) (T := T7) (H := H7) (x := x8) E7.t5 E7.b2 (c9 m7 H7)
 have E8 : E3 T8 (hset 2 (.row [.ob w8 45] false) H7) Lv L live n w8 := (E7.put E7.b2 E7.b0 E7.b1).fr f8 (by decide) (by decide) (by decide) (by decide)
 obtain ⟨T9, e9, a67, f9⟩ := x3_12 (rec := rec) (n := m7) (T := T8) (H := hset 2 (.row [.ob w8 45] false) H7) (live := live) a6' E8.t4 E8.t5 E8.b1 E8.b2 (hc2.c7b hB8 _ _)
 have E9' := E8.fr f9 (by decide) (by decide) (by decide) (by decide)
 obtain ⟨T10, e10, a9, f10⟩ := x3_13 (rec := rec) (n := m7) (T := T9) (H := hset 2 (.row [.ob w8 45] false) H7)
 obtain ⟨T11, H11, w11, e11, E11, hB11⟩ := loop2 hr hc2 hn6 n (fuel := 1000000) (m := m7) (j := 0) (E9'.fr f10 (by decide) (by decide) (by decide) (by decide)) hB8 a9 (by omega) (by omega)
 have hD11 := hc2.bd hB11
 obtain ⟨T12, e12, a10, f12⟩ := x3_18 (rec := rec) (n := m7) (T := T11) (H := H11)
 obtain ⟨T13, H13, w13, p13, e13, E13, hD13, hp13⟩ := loop4 hr hc2 150 (fuel := 1000000) (m := m7) (j := 0) (E11.fr f12 (by decide) (by decide) (by decide) (by decide)) hD11 a10 (by omega) (by omega)
 obtain ⟨s, ar, ts, lg, t, hs, x, ids, cs, hF, c9d, c7d⟩ := hc2.c9d hD13 hp13
 obtain ⟨T14, e14, a6d, f14⟩ := x3_25 (rec := rec) (n := m7) (T := T13) (H := H13) E13.t5 E13.b2 (c9d m7 H13)
 have k2 : hget 2 (hset 2 (.row [.agg 44 [s, ar, .sv ts false, lg, t, hs]] false) H13) = some (.row [.agg 44 [s, ar, .sv ts false, lg, t, hs]] false) := by rw [hget_hset, if_pos rfl, E13.b2]; rfl
 have k1 : hget 1 (hset 2 (.row [.agg 44 [s, ar, .sv ts false, lg, t, hs]] false) H13) = some (.row [setupA live] false) := by rw [hget_hset, if_neg (by decide)]; exact E13.b1
 have j4 : lk 4 T14 = .ptr 1 0 [] 28 := by rw [f14 4 (by decide)]; exact E13.t4
 have j5 : lk 5 T14 = .ptr 2 0 [] 45 := by rw [f14 5 (by decide)]; exact E13.t5
 have j7 : lk 7 T14 = i n := by rw [f14 7 (by decide)]; exact E13.t7
 obtain ⟨T15, e15, a134, f15⟩ := x3_26 (rec := rec) (n := m7) (T := T14) (live := live) (m := n) a6d j4 j5 k1 k2 (c7d m7 _) j7 hF.len (by omega)
 obtain ⟨T16, e16, a12, f16⟩ := x3_27 (rec := rec) (n := m7) (T := T15) (H := hset 2 (.row [.agg 44 [s, ar, .sv ts false, lg, t, hs]] false) H13)
 obtain ⟨T17, e17, a13, f17⟩ := x3_28 (rec := rec) (n := m7 + 1) (T := T16) (H := (m7, .row [z59] false) :: hset 2 (.row [.agg 44 [s, ar, .sv ts false, lg, t, hs]] false) H13)
 have j17 : lk 7 T17 = i n := by rw [f17 7 (by decide), f16 7 (by decide), f15 7 (by decide)]; exact j7
 obtain ⟨T18, e18, a14, f18⟩ := x3_29 (rec := rec) (n := m7 + 1) (T := T17) (m := n) (H := (m7, .row [z59] false) :: hset 2 (.row [.agg 44 [s, ar, .sv ts false, lg, t, hs]] false) H13) j17
 have E18 : E6 T18 ((m7, .row [z59] false) :: hset 2 (.row [.agg 44 [s, ar, .sv ts false, lg, t, hs]] false) H13) n (.agg 44 [s, ar, .sv ts false, lg, t, hs]) m7 (m7 + 1) 0 (List.replicate 10 (.bool false)) ids := by
  refine ⟨?_, ?_, ?_, ?_, ?_, ?_, by omega, by omega, by omega, ?_⟩
  ·rw [f18 5 (by decide), f17 5 (by decide), f16 5 (by decide), f15 5 (by decide)]; exact j5
  ·rw [f18 7 (by decide)]; exact j17
  ·rw [f18 12 (by decide), f17 12 (by decide)]; exact a12
  ·rw [f18 13 (by decide)]; exact a13
  ·rw [hget_cons, if_neg (by omega)]; exact k2
  ·rw [hget_top]; rfl
  ·intro r _ hr
   have := hF.bn r hr
   rw [List.getElem?_replicate, if_pos (by omega)]
 obtain ⟨T19, m19, H19, mt19, e19, E19⟩ := loop6 hc2 hn6 hF n (fuel := 1000000) (q := 0) E18 a14 (by omega) (by omega)
 obtain ⟨T20, e20, a2, f20⟩ := x3_41 (rec := rec) (n := m19) (T := T19) (H := H19) (m := n) E19.t13 E19.t7 (hc2.c15 m19 H19)
 have hb : body rec T.f3 [a] 0 0 [] = code rec 0 c3 [(0, a)] 0 [] (fin .q [.t 2] 0 []) (fun _ _ _ _ => none) (fin .q [.t 2] 0 []) := rfl
 rw [hb]
 refine (seq_e e0).trans ((seq_e e1).trans ((seq_e e2).trans ((seq_e e3).trans ((seq_e (seq_c e4 (cond_e a36))).trans ((seq_e e5).trans ((seq_e (seq_c e6 (loop_e e7))).trans ((seq_e (seq_c e8 (seq_c e9 (cond_e a67)))).trans ((seq_e (seq_c e10 (loop_e e11))).trans ((seq_e (seq_c e12 (loop_e e13))).trans ((seq_e (seq_c e14 (seq_c e15 (cond_e a134)))).trans ((seq_e e16).trans ((seq_e e17).trans ((seq_e (seq_c e18 (loop_e e19))).trans ((seq_e e20).trans code_ret))))))))))))))
  |>.trans ?_
 unfold fin resv
 simp only [a2]
 rfl
end
end Go.Proofs.YtgaghaggiblabaaGreatDoor.Ev.T
