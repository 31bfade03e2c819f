/- The walk of 'WalkVisits': it returns true. No condition. -/
import Derived.Test.YtaoiekcoiooghaaDv2
import Derived.Test.YtaoiekcoiooghaaDr9
import Derived.Test.YtaoiekcoiooghaaDr5
import Derived.Deep.CutBlock
namespace Go.Proofs.Ytaoiekcoiooghaa
open Go.RowKit
set_option maxHeartbeats 16000000 in
set_option maxRecDepth 100000 in
theorem walkVisits_core (HAp : ApplyC) (A0 : Option Addr) (n0 c0 : Nat) (l0 : List Int) (a1 : Int) (w : World) (w0 : Reads w w.heap.size A0 n0 (ivs l0)) (k0 : n0 ≤ c0) (m0 : c0 ≤ maxLen) (b0 : ∀ x ∈ l0, -9223372036854775808 ≤ x ∧ x ≤ 9223372036854775807)
    (st : Int) (hb : bits BinOp.and IntKind.i64 a1 65535 = st) (hst : 0 ≤ st ∧ st ≤ 65535) :
    Calls Try.prog 4 #[.slice A0 n0 c0, .int .i64 a1] w fun e w' => e = .returned (.bool true) ∧ Below w.heap.size w w' := by
  have BB := hide b0
  have HST := hide hst
  have B1 : Hid (begN st = st) := hide (by rw [begN, if_pos (show BegOk st from hst)])
  have B2 : Hid (begE st = 0) := hide (by rw [begE, if_pos (show BegOk st from hst)])
  clear b0 hst
  go_enter Try.func4, Try.ntmps4
  go_wp2_with fail
  refine (bnew_any _ _ _ _ _ w0 k0 m0 BB.out).mono ?_
  rintro e w1 ⟨rfl, S, W⟩
  clear w0 k0 m0 BB
  have HS := hide S
  have hb1 := S.1
  clear S
  go_wp2_with fail
  refine (ddir_any HAp w.heap.size _ HS.out).mono ?_
  rintro e w2 ⟨v, g, c, f, cf, L, F, rfl, hG, hL, hc1, hc2, hr, hgb, ho⟩
  have W2 := W.trans (ho.below (Nat.le_of_lt hb1) (Nat.le_refl _))
  obtain ⟨j, pj, hj, hj1, hj2⟩ := chain_hold hG.1 HST.out.1 (show st < 65536 by have := HST.out; omega)
  have HI0 := hide (vinv_start hG HST.out hj hj1 hj2)
  generalize hm : L.length = m at *
  have HM := hide hm
  have HG := hide hG
  have HJ := hide hj
  have X2 := Box3.new w2 (.int .i64 v) (.slice (some ⟨g, 0, none⟩) m c) (.slice (some ⟨f, 0, none⟩) F.length cf) 40
  have W3 := W2.alloc W2.size (.cells #[.int .i64 v, .slice (some ⟨g, 0, none⟩) m c, .slice (some ⟨f, 0, none⟩) F.length cf] 40)
  have R3 := hr.below ((Below.refl _ _).alloc (Nat.le_refl _) (.cells #[.int .i64 v, .slice (some ⟨g, 0, none⟩) m c, .slice (some ⟨f, 0, none⟩) F.length cf] 40)) hr.1
  have hgD := hr.1
  have hwD := W2.size
  clear hm hG hj ho hr W W2 HS
  go_wp2_with fail
  generalize w2.heap.size = D at *
  generalize w2.alloc (.cells #[.int .i64 v, .slice (some ⟨g, 0, none⟩) m c, .slice (some ⟨f, 0, none⟩) F.length cf] 40) = v2 at *
  refine (wbeg_any _ _).mono ?_
  rintro e w3 ⟨he, hb2⟩
  rw [B1.out, B2.out] at he
  subst he
  have X4 := X2.below hb2 X2.1
  have W4 := W3.trans (hb2.mono W3.size)
  have R4 := R3.below hb2 R3.1
  have P4 : VW w D g m c w3.heap.size (w3.heap.size + 1) L st 0 [0, 0, 0, 0, 0, 0] ((w3.alloc (.cells #[.int .i64 st, .int .i64 0] 23)).alloc (.cells #[.int .i64 0, .int .i64 0, .int .i64 0, .int .i64 0, .int .i64 0, .int .i64 0] 42)) := vw_start X4.1 X4.2.2.1 R4 W4 (Nat.lt_trans hgD X4.1)
  have HP := hide P4
  have HX := hide X4
  clear X2 X4 W3 W4 R3 R4 hb2 P4 B1 B2
  go_upto_block 0 with fail
  generalize (w3.alloc (.cells #[.int .i64 st, .int .i64 0] 23)).alloc (.cells #[.int .i64 0, .int .i64 0, .int .i64 0, .int .i64 0, .int .i64 0, .int .i64 0] 42) = v4 at HP ⊢
  generalize w3.heap.size = Bw at HP ⊢
  clear HX hb
  go_cut [9] (fun v9 wy => ∃ (t : Nat) (x y fs : Int) (V : List Int) (W : World), v9 = .int .i64 fs ∧ wy = W ∧ 65536 ≤ y ∧ Hid (VInv L st j pj t x y V fs) ∧ Hid (VW w D g m c Bw (Bw + 1) L x y V W))
  case first =>
    go_upto_region 8 with fail
    go_wp2_with fail
    go_loopw [9, 10] (fun v9 v10 wr => ∃ (t : Nat) (x y fs : Int) (V : List Int), v9 = .int .i64 fs ∧ v10 = .int .i64 t ∧ Hid (VInv L st j pj t x y V fs) ∧ Hid (VW w D g m c Bw (Bw + 1) L x y V wr)) (fun _ i _ => m + 2 - (intOf i).toNat)
    case atStart => exact ⟨0, st, 0, -1, _, rfl, rfl, HI0, HP⟩
    case round =>
      clear HP HI0
      obtain ⟨t, x, y, fs, V, rfl, rfl, HI, HR⟩ := hrel
      obtain ⟨y0, y1, x0, x1, _, t1, _⟩ := HI.out.1
      rw [HM.out] at t1
      have d1 := HR.out.1
      obtain ⟨hq0, q0, q1⟩ := id HR.out.2.1
      by_cases hy : 65536 ≤ y
      · have hd : decide (65536 ≤ y) = true := decide_eq_true hy
        by_cases ht : t ≤ m
        · have hti : (t : Int) ≤ (m : Int) := by omega
          go_wp2_with fail
          refine (wover_any _ _ _).mono ?_
          rintro e w5 ⟨rfl, hb5⟩
          rw [hd]
          have HR5 := hide (HR.out.next hb5)
          clear q0 q1 d1 hb5 hq0
          go_wp2_with fail
          go_meet
          exact ⟨t, x, y, fs, V, _, rfl, rfl, hy, HI, HR5⟩
        · have hti : (m : Int) < (t : Int) := by omega
          go_wp2_with fail
          go_meet
          exact ⟨t, x, y, fs, V, _, rfl, rfl, hy, HI, HR⟩
      · have hd : decide (65536 ≤ y) = false := decide_eq_false hy
        have ht : t ≤ m := by have := vinv_rounds HG.out HJ.out hj2 HI.out (by omega); rw [HM.out] at this; exact this
        have hti : (t : Int) ≤ (m : Int) := by omega
        obtain ⟨kx, p, hkx, hp1, hp2⟩ := chain_hold HG.out.1 x0 (show x < 65536 by omega)
        have hkm : kx < m := by have := (List.getElem?_eq_some_iff.1 hkx).1; rw [HM.out] at this; exact this
        have HI2 := hide (vinv_step HG.out HST.out HJ.out hj1 hj2 HI.out (by omega) hkx hp1 hp2)
        have HV := hide (HI.out.2.2.1 kx p hkx)
        have HKX := hide hkx
        have hf := HI.out.2.2.2
        clear hkx HI
        go_wp2_with fail
        refine (wover_any _ _ _).mono ?_
        rintro e w5 ⟨rfl, hb5⟩
        rw [hd]
        have HR5 := hide (HR.out.next hb5)
        clear q0 q1 d1 hb5 hq0 HR
        go_upto_block 1 with fail
        go_cut [9] (fun v9 wy => ∃ (x' y' fs' : Int) (V' : List Int) (W : World), v9 = .int .i64 fs' ∧ wy = W ∧ Hid (VInv L st j pj (t + 1) x' y' V' fs') ∧ Hid (VW w D g m c Bw (Bw + 1) L x' y' V' W))
        case first =>
          have mp := chain_mem HG.out.1 p (List.mem_of_getElem? HKX.out)
          have sp := HG.out.2.2.1 p (List.mem_of_getElem? HKX.out)
          have h6 := HG.out.2.2.2.2.1
          obtain ⟨mp1, mp2, mp3⟩ := mp
          have sp1 : 0 ≤ p.sh := sp.1
          have sp2 : p.sh < 6 := by omega
          have hvb := vis_bd st y p
          clear sp h6
          generalize vis st y p = vv at *
          obtain ⟨vb1, vb2⟩ := hvb
          go_wp2_with fail
          go_loopw [9, 11] (fun v9 v11 wr => ∃ k : Nat, v9 = .int .i64 fs ∧ v11 = .int .i64 k ∧ k ≤ kx ∧ Hid (VW w D g m c Bw (Bw + 1) L x y V wr)) (fun _ i _ => m - (intOf i).toNat)
          case atStart => exact ⟨0, rfl, rfl, Nat.zero_le _, HR5⟩
          case round =>
            clear HR5
            obtain ⟨k, rfl, rfl, hk, HQ⟩ := hrel
            have d1 := HQ.out.1
            obtain ⟨hq0, q0, q1⟩ := id HQ.out.2.1
            have hkm' : k < m := by omega
            have hki : (k : Int) < (m : Int) := by omega
            have hk0 : (0 : Int) ≤ (k : Int) := by omega
            by_cases hlt : k < kx
            · obtain ⟨q, hq⟩ : ∃ q, L[k]? = some q := ⟨_, List.getElem?_eq_getElem (by rw [HM.out]; exact hkm')⟩
              have hqd := chain_disj HG.out.1 hq HKX.out hlt
              have mq := chain_mem HG.out.1 q (List.mem_of_getElem? hq)
              obtain ⟨r0, r1, r2⟩ := HQ.out.2.2.2.2.2.1.2 k q hq
              have g1 : q.lo ≤ x := by omega
              have g2 : q.hi < x := by omega
              clear hq mq hqd
              go_wp2_with fail
              go_quiet (fail)
              go_wp2_with fail
              go_roundw
              case rel => exact ⟨k + 1, rfl, by go_num, by omega, hide (HQ.out.drewN _)⟩
              case measure => simp [intOf]; omega
            · obtain rfl : k = kx := by omega
              obtain ⟨r0, r1, r2⟩ := HQ.out.2.2.2.2.2.1.2 k p HKX.out
              go_wp2_with fail
              go_quiet (fail)
              have HQ2 := hide (HQ.out.drewN nq)
              clear HQ d1 q0 q1 r0 r1 r2
              go_upto_region 14 with fail
              generalize wr.drewN nq = W9 at HQ2 ⊢
              have hao : AdvOk x y p.lo p.hi := ⟨mp1, hp1, hp2, by omega, y0, by omega⟩
              have A1 : Hid (advN x y p.lo p.hi = (p.hi + 1) % 65536) := hide (by rw [advN, if_pos hao])
              have A2 : Hid (advC x y p.lo p.hi = y + p.hi - x + 1) := hide (by rw [advC, if_pos hao])
              have A3 : Hid (advE x y p.lo p.hi = 0) := hide (by rw [advE, if_pos hao])
              clear hao hq0
              have K0 := HQ2.out.drew
              have K1 := (HQ2.out.alloc (Obj.cells #[.int .i64 0, .int .i64 0] 23)).drew
              have XN : Bx2 (W9.alloc (Obj.cells #[.int .i64 0, .int .i64 0] 23)).drew W9.heap.size 0 0 := Bx2.new W9 0 0 23
              have FN : Free (W9.alloc (Obj.cells #[.int .i64 0, .int .i64 0] 23)).drew W9.heap.size := Free.new W9 _ 23
              have hXX := K0.lts
              clear hp1 hp2
              go_cut [12, 13] (fun v12 v13 wy => ∃ (X : Nat) (z : World), v12 = .pointer (some ⟨X, 0, none⟩) ∧ v13 = .int .i64 0 ∧ wy = z ∧ Hid (VW w D g m c Bw (Bw + 1) L x y V z) ∧ Hid (Bx2 z X ((p.hi + 1) % 65536) (y + p.hi - x + 1)))
              case first =>
                go_region_held3 (fun w' => w'.cell? ⟨Bw, 0, none⟩ = some (.int .i64 x) ∧ w'.cell? ⟨Bw, 1, none⟩ = some (.int .i64 y) ∧ w'.cell? ⟨D, 1, none⟩ = some (.slice (some ⟨g, 0, none⟩) m c) ∧ w'.cell? ⟨g, k * 3, none⟩ = some (.int .i64 p.lo) ∧ w'.cell? ⟨g, k * 3 + 1, none⟩ = some (.int .i64 p.hi) ∧ VW w D g m c Bw (Bw + 1) L x y V w')
                  (first | exact SV HKX K0 | exact SV HKX K1 | exact SV HKX KE | exact SV HKX (KE.alloc _) | exact SV HKX (KE.set2 hXX _ _) | exact SV HKX ((VS (by assumption)).alloc _) | assumption)
                  (first
                    | (go_at_call 30; refine (wadv_any _ _ _ _ (W9.alloc (Obj.cells #[.int .i64 0, .int .i64 0] 23)).drew).mono ?_; rintro e w' ⟨he, hb'⟩; rw [A1.out, A2.out, A3.out] at he; subst he; have KE := K1.next hb'; have XE := XN.below hb' XN.1; have FE := FN.below hb' XN.1; obtain ⟨_, xb0, xb1⟩ := id XE; have fb0 := FE 0; have fb1 := FE 1)
                    | (go_at_call 30; refine (wadv_any _ _ _ _ W9.drew).mono ?_; rintro e w' ⟨he, hb'⟩; rw [A1.out, A2.out, A3.out] at he; subst he; have KE := K0.next hb'))
                all_goals
                  go_wp2_with fail
                  go_meet
                  first
                    | exact ⟨_, _, rfl, rfl, rfl, hide (KE.alloc _), hide (Bx2.new _ _ _ 23)⟩
                    | exact ⟨_, _, rfl, rfl, rfl, hide (KE.set2 hXX _ _), hide (XE.put _ _)⟩
              obtain ⟨X, z, rfl, rfl, hz, HQ3, HX3⟩ := hcut
              subst hz
              clear K0 K1 XN FN hXX A1 A2 A3 HQ2
              obtain ⟨hq0, q0, q1⟩ := id HQ3.out.2.1
              obtain ⟨hq1, z0, z1⟩ := id HX3.out
              have f0 := HQ3.out.2.2.1 0
              have f1 := HQ3.out.2.2.1 1
              have HQ4 := hide (HQ3.out.put ((p.hi + 1) % 65536) (y + p.hi - x + 1))
              go_upto_region 18 with fail
              generalize (wc.setCell ⟨Bw, 0, none⟩ (.int .i64 ((p.hi + 1) % 65536))).setCell ⟨Bw, 1, none⟩ (.int .i64 (y + p.hi - x + 1)) = W10 at HQ4 ⊢
              clear q0 q1 z0 z1 f0 f1 HQ3 HX3 hq0 hq1
              have d1 := HQ4.out.1
              obtain ⟨_, _, r2⟩ := HQ4.out.2.2.2.2.2.1.2 k p HKX.out
              have cv := HQ4.out.2.2.2.1.2 _ _ HV.out
              have fv := HQ4.out.2.2.2.2.1 p.sh.toNat
              have hvl : p.sh.toNat < V.length := (List.getElem?_eq_some_iff.1 HV.out).1
              have HQ5 := hide (HQ4.out.vis p.sh.toNat hvl (vv + 1))
              have hp0 : 0 ≤ pj.sh := (HG.out.2.2.1 pj (List.mem_of_getElem? HJ.out)).1
              clear hvl
              go_upto_region 19 with fail
              generalize W10.setCell ⟨Bw + 1, p.sh.toNat, none⟩ (.int .i64 (vv + 1)) = W11 at HQ5 ⊢
              clear d1 r2 cv fv HQ4
              have d1 := HQ5.out.1
              obtain ⟨_, _, r2⟩ := HQ5.out.2.2.2.2.2.1.2 k p HKX.out
              rcases hf with ⟨_, rfl, _⟩ | ⟨_, rfl⟩
              · go_wp2_with fail
                go_meet
                exact ⟨_, _, p.sh, _, _, rfl, rfl, HI2, HQ5⟩
              · have HI3 : Hid (VInv L st j pj (t + 1) ((p.hi + 1) % 65536) (y + p.hi - x + 1) (V.set p.sh.toNat (vv + 1)) pj.sh) := by
                  have h := HI2.out
                  rw [if_neg (by omega)] at h
                  exact hide h
                clear HI2
                go_wp2_with fail
                go_meet
                exact ⟨_, _, pj.sh, _, _, rfl, rfl, HI3, HQ5⟩
        obtain ⟨x', y', fs', V', W, rfl, hW, HI', HR'⟩ := hcut
        subst hW
        go_wp2_with fail
        go_roundw
        case rel => exact ⟨t + 1, x', y', fs', V', rfl, by go_num, HI', HR'⟩
        case measure => simp [intOf]; omega
  obtain ⟨t, x, y, fs, V, W, rfl, hW, hy, HI, HP⟩ := hcut
  subst hW
  clear HI0
  have hd : decide (65536 ≤ y) = true := decide_eq_true hy
  have hfs : fs = pj.sh := by
    rcases HI.out.2.2.2 with ⟨_, _, h⟩ | ⟨_, h⟩
    · omega
    · exact h
  subst hfs
  have hyb := HI.out.1.2.2.2.2.1
  have HV := hide HI.out.2.2.1
  clear HI
  obtain ⟨hq0, q0, q1⟩ := id HP.out.2.1
  go_wp2_with fail
  refine (wover_any _ _ _).mono ?_
  rintro e w5 ⟨rfl, hb5⟩
  rw [hd]
  have HP5 := hide (HP.out.next hb5)
  clear q0 q1 hb5 HP hq0
  go_wp2_with fail
  go_loopw [14] (fun i wr => ∃ k : Nat, k ≤ m ∧ i = .int .i64 k ∧ Hid (VW w D g m c Bw (Bw + 1) L x y V wr)) (fun i _ => m - (intOf i).toNat)
  case atStart => exact ⟨0, Nat.zero_le _, rfl, HP5⟩
  case round =>
    clear HP5
    obtain ⟨k, hk, rfl, HR⟩ := hrel
    have d1 := HR.out.1
    by_cases hlt : k < m
    · have hki : (k : Int) < (m : Int) := by omega
      have hk0 : (0 : Int) ≤ (k : Int) := by omega
      obtain ⟨q, hq⟩ : ∃ q, L[k]? = some q := ⟨_, List.getElem?_eq_getElem (by rw [HM.out]; exact hlt)⟩
      obtain ⟨v1, v2', v3⟩ := vis_end HG.out.1 HST.out hy HJ.out hj1 hj2 hyb k q hq
      have cv := HR.out.2.2.2.1.2 _ _ (HV.out k q hq)
      obtain ⟨r0, r1, r2⟩ := HR.out.2.2.2.2.2.1.2 k q hq
      have sq := HG.out.2.2.1 q (List.mem_of_getElem? hq)
      have h6 := HG.out.2.2.2.2.1
      have sq0 : 0 ≤ q.sh := sq.1
      have sq6 : q.sh < 6 := by omega
      clear sq h6 hq
      generalize vis st y q = vv at *
      have hvv : vv = 1 ∨ vv = 2 := by omega
      rcases hvv with rfl | rfl
      · clear v1 v2' v3
        go_wp2_with fail
        go_roundw
        case rel => exact ⟨k + 1, by omega, by go_num, HR⟩
        case measure => simp [intOf]; omega
      · obtain rfl := v3 rfl
        have bb : (q.sh != q.sh) = false := by simp
        clear v1 v2' v3
        go_wp2_with fail
        go_roundw
        case rel => exact ⟨k + 1, by omega, by go_num, HR⟩
        case measure => simp [intOf]; omega
    · have hki : (m : Int) ≤ (k : Int) := by omega
      go_wp2_with fail
      refine (wawake_any _).mono ?_
      rintro e w6 ⟨rfl, hb6⟩
      have W6 := HR.out.2.2.2.2.2.2.2.trans (hb6.mono HR.out.2.2.2.2.2.2.2.size)
      go_wp2_with fail
      go_ret
      exact ⟨rfl, W6⟩
theorem walkVisits_walk (A0 : Option Addr) (n0 c0 : Nat) (l0 : List Int) (a1 : Int) (w : World) (w0 : Reads w w.heap.size A0 n0 (ivs l0)) (k0 : n0 ≤ c0) (m0 : c0 ≤ maxLen) (b0 : ∀ x ∈ l0, -9223372036854775808 ≤ x ∧ x ≤ 9223372036854775807) (_w1 : -9223372036854775808 ≤ a1 ∧ a1 ≤ 9223372036854775807) :
    Calls Try.prog 4 #[.slice A0 n0 c0, .int .i64 a1] w fun e w' => e = .returned (.bool true) ∧ Below w.heap.size w w' :=
  walkVisits_core dapply_any A0 n0 c0 l0 a1 w w0 k0 m0 b0 (a1 % 65536) (i64_and65535 a1) (by omega)
end Go.Proofs.Ytaoiekcoiooghaa
