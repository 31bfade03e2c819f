/- Finish on worlds that nobody looks into. No condition. -/
import Derived.Test.YtgaghaggiblabaaGreatDoorFna
import Derived.Test.YtgaghaggiblabaaGreatDoorSym
set_option linter.all false
namespace Go.Proofs.YtgaghaggiblabaaGreatDoor.Ev.T
open Go Go.RowKit
noncomputable def r9_0 : C := .rg [.o 1 (.bx (.t 0)), .o 2 (.al z44), .o 3 (.mv (.c (.int .i64 0))), .o 4 (.mv (.c (.int .i64 0)))] [1, 2, 3, 4]
noncomputable def r9_1 : C := .rg [.o 12 (.la 44 (.t 1)), .o 13 (.ca 19 [(.t 12)]), .o 5 (.mv (.t 13)), .o 6 (.mv (.c (.int .i64 0)))] [5, 6]
noncomputable def r9_2 : C := .rg [.o 14 (.la 44 (.t 1)), .o 15 (.ca 12 [(.t 14)]), .o 7 (.mv (.t 15))] [7]
noncomputable def r9_3 : C := .rg [.o 16 (.mv (.t 7)), .o 17 (.ln 0 (.t 16)), .o 18 (.igtr (.t 17) (.c (.int .i64 0))), .o 19 (.mv (.t 18)), .g 19 true 20 (.mv (.t 6)), .g 19 true 21 (.mv (.t 5)), .g 19 true 22 (.ilss (.t 20) (.t 21)), .o 23 (.pk (.t 19) (.t 22) (.c (.bool false)))] [23]
noncomputable def r9_4 : C := .rg [.o 26 (.mv (.t 7)), .o 27 (.ln 0 (.t 26)), .o 28 (.mv (.c (.int .i64 0)))] [26, 27, 28]
noncomputable def r9_5 : C := .rg [.o 29 (.ilss (.t 28) (.t 27))] [29]
noncomputable def r9_6 : C := .rg [.o 30 (.ia 0 0 0 (.t 26) (.t 28)), .o 31 (.ld (.t 30)), .o 9 (.mv (.t 31))] [9]
noncomputable def r9_7 : C := .rg [.o 32 (.mv (.t 6)), .o 33 (.mv (.t 5)), .o 34 (.eq .i (.t 32) (.t 33))] [34]
noncomputable def r9_8 : C := .dr [.a none (some 36) false false [] (.la 44 (.t 1)), .a none (some 37) false false [] (.la 44 (.t 1)), .a none (some 38) false false [] (.ca 12 [(.t 37)]), .p none (some 39) (.mv (.t 9)), .a none (some 40) false false [] (.ca 20 [(.t 38), (.t 39)]), .a none (some 41) false false [] (.ca 13 [(.t 36), (.t 40)]), .p none (some 35) (.mv (.t 41)), .p none (some 42) (.ex (.t 35) 0), .p none (some 43) (.ex (.t 35) 1), .e none (some 10) (.al z44), .a none none true true [] (.sa 44 (.t 10) (.t 42)), .p none (some 11) (.mv (.t 43))] [10, 11]
noncomputable def r9_9 : C := .rg [.o 44 (.mv (.t 11)), .o 45 (.ne .i (.t 44) (.c (.int .i64 0)))] [45]
noncomputable def r9_11 : C := .rg [.o 48 (.la 44 (.t 10)), .n (.sa 44 (.t 1) (.t 48))] []
noncomputable def r9_12 : C := .rg [.o 49 (.mv (.t 6)), .o 50 (.iadd (.t 49) (.c (.int .i64 1))), .o 6 (.mv (.t 50))] [6]
noncomputable def r9_13 : C := .rg [.o 51 (.iadd (.t 28) (.c (.int .i64 1))), .o 28 (.mv (.t 51))] [28]
noncomputable def r9_14 : C := .rg [.o 24 (.la 44 (.t 1)), .o 25 (.ca 12 [(.t 24)]), .o 7 (.mv (.t 25))] [7]
noncomputable def r9_15 : C := .rg [.o 52 (.la 44 (.t 1)), .o 53 (.mv (.t 6)), .n (.sa 44 (.t 2) (.t 52)), .o 3 (.mv (.t 53)), .o 4 (.mv (.c (.int .i64 0)))] [3, 4]
noncomputable def opA (l : List Nat) : AV := sln (l.map fun (j : Nat) => i j)
section
variable {α : Type}
theorem lnv_op (l : List Nat) (f : Nat -> Option α) : lnv 0 (opA l) f = f l.length := by
 cases l with
 | nil => rfl
 | cons x l =>
  show (Bool.rec none (f (len ((x :: l).map fun (j : Nat) => i j))) (Nat.beq 0 0) : Option α) = _
  rw [len_eq, List.length_map]; rfl
theorem idx_op {l : List Nat} {j : Nat} (h : j < l.length) (f : AV -> Option α) : idx 0 0 0 (opA l) j f = f (.pv (i (l[j] : Nat))) := by
 cases l with
 | nil => cases h
 | cons x l =>
  show nth ((x :: l).map fun (j : Nat) => i j) j _ = _
  rw [nth_at (by rw [List.length_map]; exact h), List.getElem_map]
  rfl
end
section
variable {rec : Rec} {wm n : Nat} {T : Tm} {H : Hp} {w p bd j : Nat} {L : List Nat}
theorem r64_lt {a b : Nat} (h : a < b) : ltI (a : Int) (b : Int) = true := by rw [ltI_eq]; exact decide_eq_true (by omega)
theorem r64_ge {a b : Nat} (h : b <= a) : ltI (a : Int) (b : Int) = false := by rw [ltI_eq]; exact decide_eq_false (by omega)
theorem r64_pos {b : Nat} (h : 0 < b) : ltI 0 (b : Int) = true := by rw [ltI_eq]; exact decide_eq_true (by omega)
theorem r64_ne {a b : Nat} (h : a ≠ b) : beqI (a : Int) (b : Int) = false := by rw [beqI_eq]; exact beq_eq_false_iff_ne.2 (by omega)
theorem r64_eq0 : beqI 0 0 = true := rfl
theorem wrapS {a : Nat} (h : a <= 100000000) : wrap .i64 (Int.add (a : Int) 1) = ((a + 1 : Nat) : Int) := by
 rw [wrap64 (m := Int.add (a : Int) 1) (by show (0 : Int) <= (a : Int) + 1; omega) (by show (a : Int) + 1 <= _; omega)]; rfl
theorem x9_0 (h : lk 0 T = .ob w 45) : ∃ T', (∀ kn kx kr, code rec wm r9_0 T n H kn kx kr = kn T' (n + 1 + 1) ((n + 1, .row [z44] false) :: (n, .row [.ob w 45] false) :: H)) /\ lk 1 T' = .ptr n 0 [] 45 /\ lk 2 T' = .ptr (n + 1) 0 [] 45 /\ ∀ q, q ∉ [1, 2, 3, 4] -> lk q T' = lk q T := by
 apply Exists.intro
 refine ⟨fun kn kx kr => ?_, ?_, ?_, ?_⟩
 ·unfold r9_0; rw [code_rg]
  simp only [↓gs_o', ↓gs_nil', evI_al, evI_bx, eBx, evI_mv, ev_t', ev_c', lk_cons, keq64, brec_t, brec_f, and_t, and_f, not_t, not_f, nbeq, nble, decide_true, decide_false, reduceIte, Nat.reduceEqDiff, h]
  rfl
 ·rw [lk_outsT, if_pos (by decide)]; rfl
 ·rw [lk_outsT, if_pos (by decide)]; rfl
 ·intro q hq; rw [lk_outsT, if_neg hq]
theorem x9_1 {b c : Nat} (h1 : lk 1 T = .ptr b 0 [] c) (hb : hget b H = some (.row [.ob w 45] false)) (hc : rec 19 [.ob w 45] wm n H = some (i bd, n, H)) : ∃ T', (∀ kn kx kr, code rec wm r9_1 T n H kn kx kr = kn T' (n) (H)) /\ lk 5 T' = i bd /\ lk 6 T' = i 0 /\ ∀ q, q ∉ [5, 6] -> lk q T' = lk q T := by
 apply Exists.intro
 refine ⟨fun kn kx kr => ?_, ?_, ?_, ?_⟩
 ·unfold r9_1; rw [code_rg]
  simp only [↓gs_o', ↓gs_nil', evI_ca, evs_cons', evs_nil', evI_la, eLa, rd_ptr, rd_pv, rdb_row, nth0, nthS, gp_nil, gp_agg, evI_mv, ev_t', ev_c', lk_cons, keq64, brec_t, brec_f, and_t, and_f, not_t, not_f, nbeq, nble, decide_true, decide_false, reduceIte, Nat.reduceEqDiff, h1, hk_at hb, call_at hc]
  rfl
 ·rw [lk_outsT, if_pos (by decide)]; rfl
 ·rw [lk_outsT, if_pos (by decide)]; rfl
 ·intro q hq; rw [lk_outsT, if_neg hq]
theorem x9_2 {b c : Nat} (h1 : lk 1 T = .ptr b 0 [] c) (hb : hget b H = some (.row [.ob w 45] false)) (hc : rec 12 [.ob w 45] wm n H = some (opA L, n, H)) : ∃ T', (∀ kn kx kr, code rec wm r9_2 T n H kn kx kr = kn T' (n) (H)) /\ lk 7 T' = opA L /\ ∀ q, q ∉ [7] -> lk q T' = lk q T := by
 apply Exists.intro
 refine ⟨fun kn kx kr => ?_, ?_, ?_⟩
 ·unfold r9_2; rw [code_rg]
  simp only [↓gs_o', ↓gs_nil', evI_ca, evs_cons', evs_nil', evI_la, eLa, rd_ptr, rd_pv, rdb_row, nth0, nthS, gp_nil, gp_agg, evI_mv, ev_t', ev_c', lk_cons, keq64, brec_t, brec_f, and_t, and_f, not_t, not_f, nbeq, nble, decide_true, decide_false, reduceIte, Nat.reduceEqDiff, h1, hk_at hb, call_at hc]
  rfl
 ·rw [lk_outsT, if_pos (by decide)]; rfl
 ·intro q hq; rw [lk_outsT, if_neg hq]
theorem x9_14 {b c : Nat} (h1 : lk 1 T = .ptr b 0 [] c) (hb : hget b H = some (.row [.ob w 45] false)) (hc : rec 12 [.ob w 45] wm n H = some (opA L, n, H)) : ∃ T', (∀ kn kx kr, code rec wm r9_14 T n H kn kx kr = kn T' (n) (H)) /\ lk 7 T' = opA L /\ ∀ q, q ∉ [7] -> lk q T' = lk q T := by
 apply Exists.intro
 refine ⟨fun kn kx kr => ?_, ?_, ?_⟩
 ·unfold r9_14; rw [code_rg]
  simp only [↓gs_o', ↓gs_nil', evI_ca, evs_cons', evs_nil', evI_la, eLa, rd_ptr, rd_pv, rdb_row, nth0, nthS, gp_nil, gp_agg, evI_mv, ev_t', ev_c', lk_cons, keq64, brec_t, brec_f, and_t, and_f, not_t, not_f, nbeq, nble, decide_true, decide_false, reduceIte, Nat.reduceEqDiff, h1, hk_at hb, call_at hc]
  rfl
 ·rw [lk_outsT, if_pos (by decide)]; rfl
 ·intro q hq; rw [lk_outsT, if_neg hq]
theorem x9_3 (h7 : lk 7 T = opA L) (h6 : lk 6 T = i p) (h5 : lk 5 T = i bd) (hL : 0 < L.length) (hp : p < bd) : ∃ T', (∀ kn kx kr, code rec wm r9_3 T n H kn kx kr = kn T' (n) (H)) /\ lk 23 T' = .bool true /\ ∀ q, q ∉ [23] -> lk q T' = lk q T := by
 apply Exists.intro
 refine ⟨fun kn kx kr => ?_, ?_, ?_⟩
 ·unfold r9_3; rw [code_rg]
  simp only [↓gs_o', ↓gs_nil', ↓gs_gt, ↓gs_g0, ↓gs_g1, evI_igtr, eIgtr, evI_ilss, eIlss, evI_ln, evI_mv, evI_pk, ePk, ev_t', ev_c', lk_cons, keq64, brec_t, brec_f, and_t, and_f, not_t, not_f, nbeq, nble, decide_true, decide_false, reduceIte, Nat.reduceEqDiff, h7, h6, h5, lnv_op, r64_pos hL, r64_lt hp]
  rfl
 ·rw [lk_outsT, if_pos (by decide)]; rfl
 ·intro q hq; rw [lk_outsT, if_neg hq]
theorem x9_3e (h7 : lk 7 T = opA [])  : ∃ T', (∀ kn kx kr, code rec wm r9_3 T n H kn kx kr = kn T' (n) (H)) /\ lk 23 T' = .bool false /\ ∀ q, q ∉ [23] -> lk q T' = lk q T := by
 apply Exists.intro
 refine ⟨fun kn kx kr => ?_, ?_, ?_⟩
 ·unfold r9_3; rw [code_rg]
  simp only [↓gs_o', ↓gs_nil', ↓gs_gt, ↓gs_g0, ↓gs_g1, evI_igtr, eIgtr, evI_ilss, eIlss, evI_ln, evI_mv, evI_pk, ePk, ev_t', ev_c', lk_cons, keq64, brec_t, brec_f, and_t, and_f, not_t, not_f, nbeq, nble, decide_true, decide_false, reduceIte, Nat.reduceEqDiff, h7, lnv_op, List.length_nil]
  rfl
 ·rw [lk_outsT, if_pos (by decide)]; rfl
 ·intro q hq; rw [lk_outsT, if_neg hq]
theorem x9_4 (h7 : lk 7 T = opA L) : ∃ T', (∀ kn kx kr, code rec wm r9_4 T n H kn kx kr = kn T' (n) (H)) /\ lk 26 T' = opA L /\ lk 27 T' = i L.length /\ lk 28 T' = i 0 /\ ∀ q, q ∉ [26, 27, 28] -> lk q T' = lk q T := by
 apply Exists.intro
 refine ⟨fun kn kx kr => ?_, ?_, ?_, ?_, ?_⟩
 ·unfold r9_4; rw [code_rg]
  simp only [↓gs_o', ↓gs_nil', evI_ln, evI_mv, ev_t', ev_c', lk_cons, reduceIte, Nat.reduceEqDiff, h7, lnv_op]
  rfl
 ·rw [lk_outsT, if_pos (by decide)]; rfl
 ·rw [lk_outsT, if_pos (by decide)]; rfl
 ·rw [lk_outsT, if_pos (by decide)]; rfl
 ·intro q hq; rw [lk_outsT, if_neg hq]
theorem x9_5 (h28 : lk 28 T = i j) (h27 : lk 27 T = i L.length) {q : Bool} (hq : ltI (j : Int) (L.length : Int) = q) : ∃ T', (∀ kn kx kr, code rec wm r9_5 T n H kn kx kr = kn T' (n) (H)) /\ lk 29 T' = .bool q /\ ∀ q, q ∉ [29] -> lk q T' = lk q T := by
 apply Exists.intro
 refine ⟨fun kn kx kr => ?_, ?_, ?_⟩
 ·unfold r9_5; rw [code_rg]
  simp only [↓gs_o', ↓gs_nil', evI_ilss, eIlss, ev_t', ev_c', lk_cons, keq64, brec_t, brec_f, and_t, and_f, not_t, not_f, nbeq, nble, decide_true, decide_false, reduceIte, Nat.reduceEqDiff, h28, h27, hq]
  rfl
 ·rw [lk_outsT, if_pos (by decide)]; rfl
 ·intro q hq; rw [lk_outsT, if_neg hq]
theorem x9_6 (h26 : lk 26 T = opA L) (h28 : lk 28 T = i j) (hj : j < L.length) : ∃ T', (∀ kn kx kr, code rec wm r9_6 T n H kn kx kr = kn T' (n) (H)) /\ lk 9 T' = i (L[j] : Nat) /\ ∀ q, q ∉ [9] -> lk q T' = lk q T := by
 apply Exists.intro
 refine ⟨fun kn kx kr => ?_, ?_, ?_⟩
 ·unfold r9_6; rw [code_rg]
  simp only [↓gs_o', ↓gs_nil', evI_ia, eIa, evI_ld, eLd, rd_ptr, rd_pv, rdb_row, nth0, nthS, gp_nil, gp_agg, evI_mv, ev_t', ev_c', lk_cons, keq64, brec_t, brec_f, and_t, and_f, not_t, not_f, nbeq, nble, decide_true, decide_false, reduceIte, Nat.reduceEqDiff, h26, h28, idx_op hj]
  rfl
 ·rw [lk_outsT, if_pos (by decide)]; rfl
 ·intro q hq; rw [lk_outsT, if_neg hq]
theorem x9_7 (h6 : lk 6 T = i p) (h5 : lk 5 T = i bd) (hp : p ≠ bd) : ∃ T', (∀ kn kx kr, code rec wm r9_7 T n H kn kx kr = kn T' (n) (H)) /\ lk 34 T' = .bool false /\ ∀ q, q ∉ [34] -> lk q T' = lk q T := by
 apply Exists.intro
 refine ⟨fun kn kx kr => ?_, ?_, ?_⟩
 ·unfold r9_7; rw [code_rg]
  simp only [↓gs_o', ↓gs_nil', evI_eq, eEq, eqv_i, evI_mv, ev_t', ev_c', lk_cons, keq64, brec_t, brec_f, and_t, and_f, not_t, not_f, nbeq, nble, decide_true, decide_false, reduceIte, Nat.reduceEqDiff, h6, h5, r64_ne hp]
  rfl
 ·rw [lk_outsT, if_pos (by decide)]; rfl
 ·intro q hq; rw [lk_outsT, if_neg hq]
theorem x9_9 (h11 : lk 11 T = i 0) : ∃ T', (∀ kn kx kr, code rec wm r9_9 T n H kn kx kr = kn T' (n) (H)) /\ lk 45 T' = .bool false /\ ∀ q, q ∉ [45] -> lk q T' = lk q T := by
 apply Exists.intro
 refine ⟨fun kn kx kr => ?_, ?_, ?_⟩
 ·unfold r9_9; rw [code_rg]
  simp only [↓gs_o', ↓gs_nil', evI_mv, evI_ne, eNe, eqv_i, ev_t', ev_c', lk_cons, keq64, brec_t, brec_f, and_t, and_f, not_t, not_f, nbeq, nble, decide_true, decide_false, reduceIte, Nat.reduceEqDiff, h11, r64_eq0]
  rfl
 ·rw [lk_outsT, if_pos (by decide)]; rfl
 ·intro q hq; rw [lk_outsT, if_neg hq]
theorem x9_11 {b c d e : Nat} {a : Nat} (h1 : lk 1 T = .ptr b 0 [] c) (h10 : lk 10 T = .ptr d 0 [] e) (hb : hget b H = some (.row [.ob a 45] false)) (hd : hget d H = some (.row [.ob w 45] false)) (hw : wm <= b) : ∃ T', (∀ kn kx kr, code rec wm r9_11 T n H kn kx kr = kn T' (n) (hset b (.row [.ob w 45] false) H)) /\ ∀ q, q ∉ [] -> lk q T' = lk q T := by
 apply Exists.intro
 refine ⟨fun kn kx kr => ?_, ?_⟩
 ·unfold r9_11; rw [code_rg]
  simp only [↓gs_o', ↓gs_nil', ↓gs_n', evI_la, eLa, rd_ptr, rd_pv, rdb_row, nth0, nthS, gp_nil, gp_agg, evI_sa, eSa, wr_ptr, wrb_row, sp_nil, sp_agg, lset0, ev_t', ev_c', lk_cons, keq64, brec_t, brec_f, and_t, and_f, not_t, not_f, nbeq, nble, decide_true, decide_false, reduceIte, Nat.reduceEqDiff, h1, h10, hk_at hb, hk_at hd, like, lc, decide_eq_true hw]
  rfl
 ·intro q hq; rw [lk_outsT, if_neg hq]
theorem x9_12 (h6 : lk 6 T = i p) (hp : p <= 100000000) : ∃ T', (∀ kn kx kr, code rec wm r9_12 T n H kn kx kr = kn T' (n) (H)) /\ lk 6 T' = i (p + 1 : Nat) /\ ∀ q, q ∉ [6] -> lk q T' = lk q T := by
 apply Exists.intro
 refine ⟨fun kn kx kr => ?_, ?_, ?_⟩
 ·unfold r9_12; rw [code_rg]
  simp only [↓gs_o', ↓gs_nil', evI_iadd, eIadd, evI_mv, ev_t', ev_c', lk_cons, keq64, brec_t, brec_f, and_t, and_f, not_t, not_f, nbeq, nble, decide_true, decide_false, reduceIte, Nat.reduceEqDiff, h6, wrapS hp]
  rfl
 ·rw [lk_outsT, if_pos (by decide)]; rfl
 ·intro q hq; rw [lk_outsT, if_neg hq]
theorem x9_13 (h28 : lk 28 T = i j) (hj : j <= 100000000) : ∃ T', (∀ kn kx kr, code rec wm r9_13 T n H kn kx kr = kn T' (n) (H)) /\ lk 28 T' = i (j + 1 : Nat) /\ ∀ q, q ∉ [28] -> lk q T' = lk q T := by
 apply Exists.intro
 refine ⟨fun kn kx kr => ?_, ?_, ?_⟩
 ·unfold r9_13; rw [code_rg]
  simp only [↓gs_o', ↓gs_nil', evI_iadd, eIadd, evI_mv, ev_t', ev_c', lk_cons, keq64, brec_t, brec_f, and_t, and_f, not_t, not_f, nbeq, nble, decide_true, decide_false, reduceIte, Nat.reduceEqDiff, h28, wrapS hj]
  rfl
 ·rw [lk_outsT, if_pos (by decide)]; rfl
 ·intro q hq; rw [lk_outsT, if_neg hq]
theorem x9_15 {b c d e : Nat} {a : AV} (h1 : lk 1 T = .ptr b 0 [] c) (h2 : lk 2 T = .ptr d 0 [] e) (hb : hget b H = some (.row [.ob w 45] false)) (hd : hget d H = some (.row [a] false)) (ha : like a (.ob w 45) = true) (h6 : lk 6 T = i p) (hw : wm <= d) : ∃ T', (∀ kn kx kr, code rec wm r9_15 T n H kn kx kr = kn T' (n) (hset d (.row [.ob w 45] false) H)) /\ lk 3 T' = i p /\ lk 4 T' = i 0 /\ ∀ q, q ∉ [3, 4] -> lk q T' = lk q T := by
 apply Exists.intro
 refine ⟨fun kn kx kr => ?_, ?_, ?_, ?_⟩
 ·unfold r9_15; rw [code_rg]
  simp only [↓gs_o', ↓gs_nil', ↓gs_n', evI_la, eLa, rd_ptr, rd_pv, rdb_row, nth0, nthS, gp_nil, gp_agg, evI_mv, evI_sa, eSa, wr_ptr, wrb_row, sp_nil, sp_agg, lset0, ev_t', ev_c', lk_cons, keq64, brec_t, brec_f, and_t, and_f, not_t, not_f, nbeq, nble, decide_true, decide_false, reduceIte, Nat.reduceEqDiff, h1, h2, hk_at hb, hk_at hd, ha, h6, decide_eq_true hw]
  rfl
 ·rw [lk_outsT, if_pos (by decide)]; rfl
 ·rw [lk_outsT, if_pos (by decide)]; rfl
 ·intro q hq; rw [lk_outsT, if_neg hq]
theorem hs {m : Nat} : like z44 (.ob m 45) = true := rfl
theorem x9_8 {b c x k w' : Nat} (h1 : lk 1 T = .ptr b 0 [] c) (hb : hget b H = some (.row [.ob w 45] false)) (h9 : lk 9 T = i x) (c12 : ∀ wm n H, rec 12 [.ob w 45] wm n H = some (opA L, n, H)) (c20 : ∀ wm n H, rec 20 [opA L, i x] wm n H = some (i k, n, H)) (c13 : ∀ wm n H, rec 13 [.ob w 45, i k] wm n H = some (.tup [.ob w' 45, i 0], n, H)) (hw : wm <= n) : ∃ T', (∀ kn kx kr, code rec wm r9_8 T n H kn kx kr = kn T' (n + 1) ((n, .row [.ob w' 45] false) :: H)) /\ lk 10 T' = .ptr n 0 [] 45 /\ lk 11 T' = i 0 /\ ∀ q, q ∉ [10, 11] -> lk q T' = lk q T := by
 apply Exists.intro
 refine ⟨fun kn kx kr => ?_, ?_, ?_, ?_⟩
 ·unfold r9_8; rw [code_dr]
  rw [ds_a (v := .ob w 45) (H' := H) (fun f => by simp only [dput_some, dput_none, evI_al, evI_ca, evs_cons', evs_nil', evI_ex, eEx, nth0, nthS, evI_la, eLa, rd_ptr, rd_pv, rdb_row, gp_nil, gp_agg, evI_mv, evI_sa, eSa, wr_ptr, wrb_row, sp_nil, sp_agg, lset0, ev_t', ev_c', lk_cons, keq64, brec_t, brec_f, and_t, and_f, not_t, not_f, nbeq, nble, decide_true, decide_false, reduceIte, Nat.reduceEqDiff, h1, hk_at hb])]
  rw [ds_a (v := .ob w 45) (H' := H) (fun f => by simp only [dput_some, dput_none, evI_al, evI_ca, evs_cons', evs_nil', evI_ex, eEx, nth0, nthS, evI_la, eLa, rd_ptr, rd_pv, rdb_row, gp_nil, gp_agg, evI_mv, evI_sa, eSa, wr_ptr, wrb_row, sp_nil, sp_agg, lset0, ev_t', ev_c', lk_cons, keq64, brec_t, brec_f, and_t, and_f, not_t, not_f, nbeq, nble, decide_true, decide_false, reduceIte, Nat.reduceEqDiff, h1, hk_at hb])]
  rw [ds_a (v := opA L) (H' := H) (fun f => by simp only [dput_some, dput_none, evI_al, evI_ca, evs_cons', evs_nil', evI_ex, eEx, nth0, nthS, evI_la, eLa, rd_ptr, rd_pv, rdb_row, gp_nil, gp_agg, evI_mv, evI_sa, eSa, wr_ptr, wrb_row, sp_nil, sp_agg, lset0, ev_t', ev_c', lk_cons, keq64, brec_t, brec_f, and_t, and_f, not_t, not_f, nbeq, nble, decide_true, decide_false, reduceIte, Nat.reduceEqDiff, call_at (c12 _ _ _)])]
  rw [ds_p (v := i x) (fun f => by simp only [dput_some, dput_none, evI_al, evI_ca, evs_cons', evs_nil', evI_ex, eEx, nth0, nthS, evI_la, eLa, rd_ptr, rd_pv, rdb_row, gp_nil, gp_agg, evI_mv, evI_sa, eSa, wr_ptr, wrb_row, sp_nil, sp_agg, lset0, ev_t', ev_c', lk_cons, keq64, brec_t, brec_f, and_t, and_f, not_t, not_f, nbeq, nble, decide_true, decide_false, reduceIte, Nat.reduceEqDiff, h9])]
  rw [ds_a (v := i k) (H' := H) (fun f => by simp only [dput_some, dput_none, evI_al, evI_ca, evs_cons', evs_nil', evI_ex, eEx, nth0, nthS, evI_la, eLa, rd_ptr, rd_pv, rdb_row, gp_nil, gp_agg, evI_mv, evI_sa, eSa, wr_ptr, wrb_row, sp_nil, sp_agg, lset0, ev_t', ev_c', lk_cons, keq64, brec_t, brec_f, and_t, and_f, not_t, not_f, nbeq, nble, decide_true, decide_false, reduceIte, Nat.reduceEqDiff, call_at (c20 _ _ _)])]
  rw [ds_a (v := .tup [.ob w' 45, i 0]) (H' := H) (fun f => by simp only [dput_some, dput_none, evI_al, evI_ca, evs_cons', evs_nil', evI_ex, eEx, nth0, nthS, evI_la, eLa, rd_ptr, rd_pv, rdb_row, gp_nil, gp_agg, evI_mv, evI_sa, eSa, wr_ptr, wrb_row, sp_nil, sp_agg, lset0, ev_t', ev_c', lk_cons, keq64, brec_t, brec_f, and_t, and_f, not_t, not_f, nbeq, nble, decide_true, decide_false, reduceIte, Nat.reduceEqDiff, call_at (c13 _ _ _)])]
  rw [ds_p (v := .tup [.ob w' 45, i 0]) (fun f => by simp only [dput_some, dput_none, evI_al, evI_ca, evs_cons', evs_nil', evI_ex, eEx, nth0, nthS, evI_la, eLa, rd_ptr, rd_pv, rdb_row, gp_nil, gp_agg, evI_mv, evI_sa, eSa, wr_ptr, wrb_row, sp_nil, sp_agg, lset0, ev_t', ev_c', lk_cons, keq64, brec_t, brec_f, and_t, and_f, not_t, not_f, nbeq, nble, decide_true, decide_false, reduceIte, Nat.reduceEqDiff, h9])]
  rw [ds_p (v := .ob w' 45) (fun f => by simp only [dput_some, dput_none, evI_al, evI_ca, evs_cons', evs_nil', evI_ex, eEx, nth0, nthS, evI_la, eLa, rd_ptr, rd_pv, rdb_row, gp_nil, gp_agg, evI_mv, evI_sa, eSa, wr_ptr, wrb_row, sp_nil, sp_agg, lset0, ev_t', ev_c', lk_cons, keq64, brec_t, brec_f, and_t, and_f, not_t, not_f, nbeq, nble, decide_true, decide_false, reduceIte, Nat.reduceEqDiff, h9])]
  rw [ds_p (v := i 0) (fun f => by simp only [dput_some, dput_none, evI_al, evI_ca, evs_cons', evs_nil', evI_ex, eEx, nth0, nthS, evI_la, eLa, rd_ptr, rd_pv, rdb_row, gp_nil, gp_agg, evI_mv, evI_sa, eSa, wr_ptr, wrb_row, sp_nil, sp_agg, lset0, ev_t', ev_c', lk_cons, keq64, brec_t, brec_f, and_t, and_f, not_t, not_f, nbeq, nble, decide_true, decide_false, reduceIte, Nat.reduceEqDiff, h9])]
  rw [ds_e (v := .ptr n 0 [] 45) (n' := n + 1) (V := [(n, .row [z44] false)]) (fun f => rfl)]
  rw [ds_a (v := .top) (H' := (n, .row [.ob w' 45] false) :: H) (fun f => by simp only [dput_some, dput_none, evI_al, evI_ca, evs_cons', evs_nil', evI_ex, eEx, nth0, nthS, evI_la, eLa, rd_ptr, rd_pv, rdb_row, gp_nil, gp_agg, evI_mv, evI_sa, eSa, wr_ptr, wrb_row, sp_nil, sp_agg, lset0, ev_t', ev_c', lk_cons, keq64, brec_t, brec_f, and_t, and_f, not_t, not_f, nbeq, nble, decide_true, decide_false, reduceIte, Nat.reduceEqDiff]; rw [hk_at (ab := .row [z44] false) (by rw [happ_eq]; show hget n ((n, _) :: H) = _; rw [hget_cons, if_pos rfl])]; simp only [evI_al, evI_ca, evs_cons', evs_nil', evI_ex, eEx, nth0, nthS, evI_la, eLa, rd_ptr, rd_pv, rdb_row, gp_nil, gp_agg, evI_mv, evI_sa, eSa, wr_ptr, wrb_row, sp_nil, sp_agg, lset0, ev_t', ev_c', lk_cons, keq64, brec_t, brec_f, and_t, and_f, not_t, not_f, nbeq, nble, decide_true, decide_false, reduceIte, Nat.reduceEqDiff, hs]; rw [decide_eq_true hw, show hset n (.row [.ob w' 45] false) (happ [(n, .row [z44] false)] H) = (n, .row [.ob w' 45] false) :: H by (show (Bool.rec _ _ (Nat.beq n n) : Hp) = _; rw [nbeq, decide_eq_true rfl])])]
  rw [ds_p (v := i 0) (fun f => by simp only [dput_some, dput_none, evI_al, evI_ca, evs_cons', evs_nil', evI_ex, eEx, nth0, nthS, evI_la, eLa, rd_ptr, rd_pv, rdb_row, gp_nil, gp_agg, evI_mv, evI_sa, eSa, wr_ptr, wrb_row, sp_nil, sp_agg, lset0, ev_t', ev_c', lk_cons, keq64, brec_t, brec_f, and_t, and_f, not_t, not_f, nbeq, nble, decide_true, decide_false, reduceIte, Nat.reduceEqDiff, h9])]
  rw [ds_nil]
 ·rw [lk_outsT, if_pos (by decide)]; rfl
 ·rw [lk_outsT, if_pos (by decide)]; rfl
 ·intro q hq; rw [lk_outsT, if_neg hq]
end
end Go.Proofs.YtgaghaggiblabaaGreatDoor.Ev.T
namespace Go.Proofs.YtgaghaggiblabaaGreatDoor.Ev.T
open Go Go.RowKit
structure E9 (T : Tm) (H : Hp) (w p bd : Nat) : Prop where
 t1 : lk 1 T = .ptr 0 0 [] 45
 t2 : lk 2 T = .ptr 1 0 [] 45
 t5 : lk 5 T = i bd
 t6 : lk 6 T = i p
 h0 : hget 0 H = some (.row [.ob w 45] false)
 h1 : hget 1 H = some (.row [z44] false)
theorem E9.fr {T T' : Tm} {H : Hp} {w p bd : Nat} (h : E9 T H w p bd) {outs : List Nat} (hf : ∀ q, q ∉ outs -> lk q T' = lk q T) (h1 : 1 ∉ outs) (h2 : 2 ∉ outs) (h5 : 5 ∉ outs) (h6 : 6 ∉ outs) : E9 T' H w p bd :=
 ⟨by rw [hf 1 h1]; exact h.t1, by rw [hf 2 h2]; exact h.t2, by rw [hf 5 h5]; exact h.t5, by rw [hf 6 h6]; exact h.t6, h.h0, h.h1⟩
noncomputable def r9_10 : C := .seq (.rg [.o 46 (.bl z44 []), .o 47 (.mv (.t 11)), .n (.sa 44 (.t 2) (.t 46)), .o 3 (.mv (.c (.int .i64 0))), .o 4 (.mv (.t 47))] [3, 4]) .ret
noncomputable def b9i : C := .seq r9_5 (.seq (.cond (.t 29) .skip (.exit 2)) (.seq (.block 3 (.seq r9_6 (.seq (.seq r9_7 (.cond (.t 34) (.exit 2) .skip)) (.seq r9_8 (.seq (.seq r9_9 (.cond (.t 45) r9_10 .skip)) (.seq r9_11 r9_12)))))) r9_13))
noncomputable def b9o : C := .seq (.seq r9_3 (.cond (.t 23) .skip (.exit 0))) (.seq (.block 1 (.seq r9_4 (.block 2 (.loop b9i)))) r9_14)
noncomputable def c9 : C := .seq r9_0 (.seq r9_1 (.seq (.seq r9_2 (.block 0 (.loop b9o))) (.seq r9_15 .ret)))
inductive Rnd (op : Nat -> List Nat) (nx : Nat -> Nat -> Nat) (A : Nat -> Nat -> Prop) : Nat -> List Nat -> Nat -> Prop
 | nil {w : Nat} : Rnd op nx A w [] w
 | cons {w x k w' : Nat} {l : List Nat} : k < (op w).length -> A w k -> (op w).getD k 0 = x -> Rnd op nx A (nx w k) l w' -> Rnd op nx A w (x :: l) w'
structure Call9 (rec : Rec) (bd : Nat) (V : Nat -> Nat -> Prop) (op : Nat -> List Nat) (nx : Nat -> Nat -> Nat) (A : Nat -> Nat -> Prop) : Prop where
 c12 : ∀ {w p : Nat}, V w p -> ∀ wm n H, rec 12 [.ob w 45] wm n H = some (opA (op w), n, H)
 c20 : ∀ {w p : Nat}, V w p -> ∀ {k : Nat}, k < (op w).length -> ∀ wm n H, rec 20 [opA (op w), i ((op w).getD k 0 : Nat)] wm n H = some (i k, n, H)
 c13 : ∀ {w p : Nat}, V w p -> p < bd -> ∀ {k : Nat}, k < (op w).length -> A w k -> (∀ wm n H, rec 13 [.ob w 45, i k] wm n H = some (.tup [.ob (nx w k) 45, i 0], n, H)) /\ V (nx w k) (p + 1)
section
variable {rec : Rec} {bd : Nat} {V : Nat -> Nat -> Prop} {op : Nat -> List Nat} {nx : Nat -> Nat -> Nat} {A : Nat -> Nat -> Prop} {R : Nat -> Prop}
theorem in9 (hc : Call9 rec bd V op nx A) {T : Tm} {H : Hp} {n w p j k : Nat} {L : List Nat} (hE : E9 T H w p bd) (hn : 2 <= n) (hV : V w p) (hp : p < bd) (hbd : bd <= 100000000) (h26 : lk 26 T = opA L) (h27 : lk 27 T = i L.length) (h28 : lk 28 T = i j) (hj : j < L.length) (hL : L.length <= 100000000)
  (hk : k < (op w).length) (hA : A w k) (hx : (op w).getD k 0 = L[j]) :
  ∃ T' H', (∀ kn kx kr, code rec 0 b9i T n H kn kx kr = kn T' (n + 1) H') /\ E9 T' H' (nx w k) (p + 1) bd /\ lk 26 T' = opA L /\ lk 27 T' = i L.length /\ lk 28 T' = i (j + 1 : Nat) := by
 obtain ⟨T1, e1, a29, f1⟩ := x9_5 (rec := rec) (wm := 0) (n := n) (H := H) h28 h27 (r64_lt hj)
 have E1 := hE.fr f1 (by decide) (by decide) (by decide) (by decide)
 obtain ⟨T2, e2, a9, f2⟩ := x9_6 (rec := rec) (wm := 0) (n := n) (H := H) (T := T1) (by rw [f1 26 (by decide)]; exact h26) (by rw [f1 28 (by decide)]; exact h28) hj
 have E2 := E1.fr f2 (by decide) (by decide) (by decide) (by decide)
 obtain ⟨T3, e3, a34, f3⟩ := x9_7 (rec := rec) (wm := 0) (n := n) (H := H) E2.t6 E2.t5 (by omega)
 have E3 := E2.fr f3 (by decide) (by decide) (by decide) (by decide)
 obtain ⟨c1, hV'⟩ := hc.c13 hV hp hk hA
 obtain ⟨T4, e4, a10, a11, f4⟩ := x9_8 (rec := rec) (wm := 0) (n := n) (T := T3) (x := L[j]) E3.t1 E3.h0 (by rw [f3 9 (by decide)]; exact a9) (hc.c12 hV) (by rw [<- hx]; exact hc.c20 hV hk) c1 (Nat.zero_le n)
 have E4 : E9 T4 ((n, .row [.ob (nx w k) 45] false) :: H) w p bd := by
  have h := E3.fr f4 (by decide) (by decide) (by decide) (by decide)
  exact ⟨h.t1, h.t2, h.t5, h.t6, by rw [hget_cons, if_neg (by omega)]; exact h.h0, by rw [hget_cons, if_neg (by omega)]; exact h.h1⟩
 obtain ⟨T5, e5, a45, f5⟩ := x9_9 (rec := rec) (wm := 0) (n := n + 1) (H := (n, .row [.ob (nx w k) 45] false) :: H) a11
 have E5 := E4.fr f5 (by decide) (by decide) (by decide) (by decide)
 obtain ⟨T6, e6, f6⟩ := x9_11 (rec := rec) (wm := 0) (n := n + 1) (T := T5) E5.t1 (by rw [f5 10 (by decide)]; exact a10) E5.h0 (by rw [hget_cons, if_pos rfl]) (Nat.zero_le 0)
 have E6 := E5.fr f6 (by decide) (by decide) (by decide) (by decide)
 obtain ⟨T7, e7, a6, f7⟩ := x9_12 (rec := rec) (wm := 0) (n := n + 1) (H := hset 0 (.row [.ob (nx w k) 45] false) ((n, .row [.ob (nx w k) 45] false) :: H)) E6.t6 (by omega)
 have g28 : lk 28 T7 = i j := by rw [f7 28 (by decide), f6 28 (by decide), f5 28 (by decide), f4 28 (by decide), f3 28 (by decide), f2 28 (by decide), f1 28 (by decide)]; exact h28
 obtain ⟨T8, e8, b28, f8⟩ := x9_13 (rec := rec) (wm := 0) (n := n + 1) (H := hset 0 (.row [.ob (nx w k) 45] false) ((n, .row [.ob (nx w k) 45] false) :: H)) g28 (by omega)
 refine ⟨T8, hset 0 (.row [.ob (nx w k) 45] false) ((n, .row [.ob (nx w k) 45] false) :: H), fun kn kx kr => ?_, ⟨?_, ?_, ?_, ?_, ?_, ?_⟩, ?_, ?_, b28⟩
 ·unfold b9i
  simp only [code_seq, code_block, e1, ev_t', code_ct, code_cf, a29, a34, a45, code_skip, e2, e3, e4, e5, e6, e7, e8]
 ·rw [f8 1 (by decide), f7 1 (by decide)]; exact E6.t1
 ·rw [f8 2 (by decide), f7 2 (by decide)]; exact E6.t2
 ·rw [f8 5 (by decide), f7 5 (by decide)]; exact E6.t5
 ·rw [f8 6 (by decide)]; exact a6
 ·rw [hget_hset, if_pos rfl, E6.h0]; rfl
 ·rw [hget_hset, if_neg (by decide)]; exact E6.h1
 ·rw [f8 26 (by decide), f7 26 (by decide), f6 26 (by decide), f5 26 (by decide), f4 26 (by decide), f3 26 (by decide), f2 26 (by decide), f1 26 (by decide)]; exact h26
 ·rw [f8 27 (by decide), f7 27 (by decide), f6 27 (by decide), f5 27 (by decide), f4 27 (by decide), f3 27 (by decide), f2 27 (by decide), f1 27 (by decide)]; exact h27
theorem rnd9 (hc : Call9 rec bd V op nx A) (hbd : bd <= 100000000) {L : List Nat} (hL : L.length <= 100000000) : ∀ {l : List Nat} {T : Tm} {H : Hp} {n w p j w' m : Nat}, E9 T H w p bd -> 2 <= n -> V w p -> p + l.length <= bd -> lk 26 T = opA L -> lk 27 T = i L.length -> lk 28 T = i j -> L.drop j = l -> j <= L.length -> l.length < m -> Rnd op nx A w l w' ->
  ∃ T' n' H', (∀ (kx : Nat -> Kt) (kr : Kt), lp (code rec 0 b9i) kx kr m T n H = kx 2 T' n' H') /\ E9 T' H' w' (p + l.length) bd /\ 2 <= n' /\ V w' (p + l.length)
 | [], T, H, n, w, p, j, w', m, hE, hn, hV, hp, h26, h27, h28, hd, hjl, hm, hr => by
  have hj : L.length <= j := List.drop_eq_nil_iff.1 hd
  cases hr
  obtain ⟨T1, e1, a29, f1⟩ := x9_5 (rec := rec) (wm := 0) (n := n) (H := H) h28 h27 (r64_ge hj)
  obtain ⟨m, rfl⟩ : ∃ m', m = m' + 1 := ⟨m - 1, by simp at hm; omega⟩
  refine ⟨T1, n, H, fun kx kr => ?_, hE.fr f1 (by decide) (by decide) (by decide) (by decide), hn, hV⟩
  rw [lp_S]
  unfold b9i
  simp only [code_seq, e1, ev_t', code_cf, a29, code_exit]
 | x :: l, T, H, n, w, p, j, w', m, hE, hn, hV, hp, h26, h27, h28, hd, hjl, hm, hr => by
  have hj : j < L.length := by
   rcases Nat.lt_or_ge j L.length with h | h
   ·exact h
   ·rw [List.drop_eq_nil_iff.2 h] at hd; cases hd
  rw [List.drop_eq_getElem_cons hj] at hd
  obtain ⟨hx, hd⟩ := List.cons.inj hd
  cases hr with
  | cons hk hA hkx hr =>
  rw [List.length_cons] at hp hm
  obtain ⟨T1, H1, e1, E1, g26, g27, g28⟩ := in9 hc hE hn hV (by omega) hbd h26 h27 h28 hj hL hk hA (hkx.trans hx.symm)
  obtain ⟨m, rfl⟩ : ∃ m', m = m' + 1 := ⟨m - 1, by omega⟩
  obtain ⟨T2, n2, H2, e2, E2, hn2, hV2⟩ := rnd9 hc hbd hL (l := l) (m := m) (n := n + 1) E1 (by omega) (hc.c13 hV (by omega) hk hA).2 (by omega) g26 g27 g28 hd hj (by omega) hr
  refine ⟨T2, n2, H2, fun kx kr => ?_, by rw [List.length_cons, show p + (l.length + 1) = p + 1 + l.length by omega]; exact E2, hn2, by rw [List.length_cons, show p + (l.length + 1) = p + 1 + l.length by omega]; exact hV2⟩
  rw [lp_S, e1, e2]
theorem all9 (hc : Call9 rec bd V op nx A) (hbd : bd <= 100000000) {μ : Nat -> Nat} {c : Nat} (hr : ∀ w p, V w p -> R w -> op w ≠ [] -> ∃ w', Rnd op nx A w (op w) w' /\ R w' /\ μ w' < μ w /\ (op w').length <= c) : ∀ (q : Nat) {T : Tm} {H : Hp} {n w p m : Nat}, μ w <= q -> E9 T H w p bd -> 2 <= n -> V w p -> R w -> lk 7 T = opA (op w) -> (op w).length <= c -> p + c * q <= bd -> c <= 100 -> q < m ->
  ∃ T' n' H' w' p', (∀ (kx : Nat -> Kt) (kr : Kt), lp (code rec 0 b9o) kx kr m T n H = kx 0 T' n' H') /\ E9 T' H' w' p' bd /\ 2 <= n' /\ V w' p' /\ op w' = [] /\ p' <= bd := by
 intro q
 induction q with
 | zero =>
  intro T H n w p m hq hE hn hV hRw h7 hcl hp hc1 hm
  by_cases ho : op w = []
  ·obtain ⟨T1, e1, a23, f1⟩ := x9_3e (rec := rec) (wm := 0) (n := n) (H := H) (T := T) (by rw [h7, ho])
   obtain ⟨m, rfl⟩ : ∃ m', m = m' + 1 := ⟨m - 1, by omega⟩
   refine ⟨T1, n, H, w, p, fun kx kr => ?_, hE.fr f1 (by decide) (by decide) (by decide) (by decide), hn, hV, ho, by omega⟩
   rw [lp_S]
   unfold b9o
   simp only [code_seq, e1, ev_t', code_cf, a23, code_exit]
  ·obtain ⟨w', _, _, h, _⟩ := hr w p hV hRw ho
   omega
 | succ q ih =>
  intro T H n w p m hq hE hn hV hRw h7 hcl hp hc1 hm
  obtain ⟨m, rfl⟩ : ∃ m', m = m' + 1 := ⟨m - 1, by omega⟩
  by_cases ho : op w = []
  ·obtain ⟨T1, e1, a23, f1⟩ := x9_3e (rec := rec) (wm := 0) (n := n) (H := H) (T := T) (by rw [h7, ho])
   refine ⟨T1, n, H, w, p, fun kx kr => ?_, hE.fr f1 (by decide) (by decide) (by decide) (by decide), hn, hV, ho, by omega⟩
   rw [lp_S]
   unfold b9o
   simp only [code_seq, e1, ev_t', code_cf, a23, code_exit]
  ·obtain ⟨w', hR, hRw', hmu, hcl'⟩ := hr w p hV hRw ho
   have hpos : 0 < (op w).length := List.length_pos_iff.2 ho
   have hmul : c * (q + 1) = c * q + c := Nat.mul_succ c q
   obtain ⟨T1, e1, a23, f1⟩ := x9_3 (rec := rec) (wm := 0) (n := n) (H := H) h7 hE.t6 hE.t5 hpos (by omega)
   have E1 := hE.fr f1 (by decide) (by decide) (by decide) (by decide)
   obtain ⟨T2, e2, a26, a27, a28, f2⟩ := x9_4 (rec := rec) (wm := 0) (n := n) (H := H) (T := T1) (by rw [f1 7 (by decide)]; exact h7)
   have E2 := E1.fr f2 (by decide) (by decide) (by decide) (by decide)
   obtain ⟨T3, n3, H3, e3, E3, hn3, hV3⟩ := rnd9 hc hbd (L := op w) (by omega) (l := op w) (j := 0) (m := 1000000) E2 hn hV (by omega) a26 a27 a28 rfl (Nat.zero_le _) (by omega) hR
   obtain ⟨T4, e4, a7, f4⟩ := x9_14 (rec := rec) (wm := 0) (n := n3) (H := H3) E3.t1 E3.h0 (hc.c12 hV3 0 n3 H3)
   have E4 := E3.fr f4 (by decide) (by decide) (by decide) (by decide)
   obtain ⟨T5, n5, H5, w5, p5, e5, E5, hn5, hV5, ho5, hp5⟩ := ih (m := m) (by omega) E4 hn3 hV3 hRw' a7 hcl' (by omega) hc1 (by omega)
   refine ⟨T5, n5, H5, w5, p5, fun kx kr => ?_, E5, hn5, hV5, ho5, hp5⟩
   rw [lp_S]
   unfold b9o
   simp only [code_seq, code_block, code_loop, e1, ev_t', code_ct, a23, code_skip, e2, e3, nbeq, decide_true, e4]
   exact e5 kx kr
theorem fin9 (hc : Call9 rec bd V op nx A) (hbd : bd <= 100000000) {μ : Nat -> Nat} {c w : Nat} (hr : ∀ w p, V w p -> R w -> op w ≠ [] -> ∃ w', Rnd op nx A w (op w) w' /\ R w' /\ μ w' < μ w /\ (op w').length <= c) (hV : V w 0) (hRw : R w) (hcl : (op w).length <= c) (hB : c * μ w <= bd) (hc1 : c <= 100) (hm : μ w < 1000000) (c19 : ∀ wm n H, rec 19 [.ob w 45] wm n H = some (i bd, n, H)) :
  ∃ w' p', body rec f9 [.ob w 45] 0 0 [] = some (.tup [.ob w' 45, i (p' : Nat), i 0], 0, []) /\ V w' p' /\ op w' = [] := by
 obtain ⟨T1, e1, a1, a2, f1⟩ := x9_0 (rec := rec) (wm := 0) (n := 0) (H := []) (T := [(0, .ob w 45)]) (w := w) rfl
 obtain ⟨T2, e2, a5, a6, f2⟩ := x9_1 (rec := rec) (wm := 0) (n := 2) (H := [(1, .row [z44] false), (0, .row [.ob w 45] false)]) a1 rfl (c19 _ _ _)
 obtain ⟨T3, e3, a7, f3⟩ := x9_2 (rec := rec) (wm := 0) (n := 2) (H := [(1, .row [z44] false), (0, .row [.ob w 45] false)]) (T := T2) (by rw [f2 1 (by decide)]; exact a1) rfl (hc.c12 hV _ _ _)
 have E3 : E9 T3 [(1, .row [z44] false), (0, .row [.ob w 45] false)] w 0 bd := ⟨by rw [f3 1 (by decide), f2 1 (by decide)]; exact a1, by rw [f3 2 (by decide), f2 2 (by decide)]; exact a2, by rw [f3 5 (by decide)]; exact a5, by rw [f3 6 (by decide)]; exact a6, rfl, rfl⟩
 obtain ⟨T4, n4, H4, w', p', e4, E4, hn4, hV4, ho4, hp4⟩ := all9 hc hbd hr (μ w) (m := 1000000) (Nat.le_refl _) E3 (Nat.le_refl 2) hV hRw a7 hcl (by omega) hc1 hm
 obtain ⟨T5, e5, b3, b4, f5⟩ := x9_15 (rec := rec) (wm := 0) (n := n4) E4.t1 E4.t2 E4.h0 E4.h1 hs E4.t6 (Nat.zero_le 1)
 refine ⟨w', p', ?_, hV4, ho4⟩
 have hb : body rec f9 [.ob w 45] 0 0 [] = code rec 0 c9 [(0, .ob w 45)] 0 [] (fin .q [.a 44 2, .t 3, .t 4] 0 []) (fun _ _ _ _ => none) (fin .q [.a 44 2, .t 3, .t 4] 0 []) := rfl
 rw [hb]
 unfold c9
 simp only [code_seq, code_block, code_loop, e1, e2, e3, e4, nbeq, decide_true, e5, code_ret]
 have h2 : lk 2 T5 = .ptr 1 0 [] 45 := by rw [f5 2 (by decide)]; exact E4.t2
 have hg : hget 1 (hset 1 (.row [.ob w' 45] false) H4) = some (.row [.ob w' 45] false) := by rw [hget_hset, if_pos rfl, E4.h1]; rfl
 unfold fin resv
 simp only [h2, rd_ptr, hk_at hg, b3, b4]
 rfl
end
end Go.Proofs.YtgaghaggiblabaaGreatDoor.Ev.T
