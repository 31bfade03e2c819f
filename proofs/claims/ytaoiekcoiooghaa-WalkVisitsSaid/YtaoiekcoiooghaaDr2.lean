/- The contract of the directory reference's Validate: at a good directory it returns some error code. Condition: the directory is good. -/
import Derived.Test.YtaoiekcoiooghaaDr1
import Derived.Deep.RegionHeld3
namespace Go.Proofs.Ytaoiekcoiooghaa
open Go.RowKit
/-- A directory in a variable: its cells, its spans, its forwards. -/
def Box3 (W : World) (b : Nat) (x0 x1 x2 : Value) : Prop := b < W.heap.size ∧ W.cell? ⟨b, 0, none⟩ = some x0 ∧ W.cell? ⟨b, 1, none⟩ = some x1 ∧ W.cell? ⟨b, 2, none⟩ = some x2
theorem Box3.new (w : World) (x0 x1 x2 : Value) (t : TypeId) : Box3 (w.alloc (.cells #[x0, x1, x2] t)) w.heap.size x0 x1 x2 := by
  refine ⟨by simp, ?_, ?_, ?_⟩ <;> simp [World.cell?_alloc_new]
theorem Box3.below {W W' : World} {B b : Nat} {x0 x1 x2 : Value} (h : Box3 W b x0 x1 x2) (hb : Below B W W') (hB : b < B) : Box3 W' b x0 x1 x2 :=
  ⟨Nat.lt_of_lt_of_le h.1 hb.size, (hb.cell (p := ⟨b, 0, none⟩) hB).trans h.2.1, (hb.cell (p := ⟨b, 1, none⟩) hB).trans h.2.2.1, (hb.cell (p := ⟨b, 2, none⟩) hB).trans h.2.2.2⟩
theorem Box3.oth {W W' : World} {B b c : Nat} {x0 x1 x2 : Value} (h : Box3 W b x0 x1 x2) (hb : Oth B c W W') (hB : b < B) (hn : b ≠ c) : Box3 W' b x0 x1 x2 :=
  ⟨Nat.lt_of_lt_of_le h.1 hb.size, (hb.cell (p := ⟨b, 0, none⟩) hB hn).trans h.2.1, (hb.cell (p := ⟨b, 1, none⟩) hB hn).trans h.2.2.1, (hb.cell (p := ⟨b, 2, none⟩) hB hn).trans h.2.2.2⟩
def VSt (w : World) (L : List Sp) (F : List Int) (v : Int) (g m c f n cf : Nat) (W : World) : Prop :=
  Box3 W w.heap.size (.int .i64 v) (.slice (some ⟨g, 0, none⟩) m c) (.slice (some ⟨f, 0, none⟩) n cf) ∧ RowP L g W ∧ RowN F f W ∧ Below w.heap.size w W
theorem VSt.next {w W W' : World} {L : List Sp} {F : List Int} {v : Int} {g m c f n cf : Nat} (h : VSt w L F v g m c f n cf W) (hb : Below W.heap.size W W') : VSt w L F v g m c f n cf W' :=
  ⟨h.1.below hb h.1.1, h.2.1.below hb h.2.1.1, h.2.2.1.below hb h.2.2.1.1, h.2.2.2.trans (hb.mono h.2.2.2.size)⟩
theorem VSt.alloc {w W : World} {L : List Sp} {F : List Int} {v : Int} {g m c f n cf : Nat} (h : VSt w L F v g m c f n cf W) (o : Obj) : VSt w L F v g m c f n cf (W.alloc o) := h.next ((Below.refl _ _).alloc (Nat.le_refl _) o)
theorem VSt.drew {w W : World} {L : List Sp} {F : List Int} {v : Int} {g m c f n cf : Nat} (h : VSt w L F v g m c f n cf W) : VSt w L F v g m c f n cf W.drew := ⟨h.1, h.2.1, h.2.2.1, h.2.2.2.drew⟩
/-- Some error code. -/
def RetZ (w : World) (e : Ending) (w' : World) : Prop := ∃ z : Int, e = .returned (.int .i64 z) ∧ Below w.heap.size w w'
theorem keepV {w W W' : World} {L : List Sp} {F : List Int} {v : Int} {g m c f n cf : Nat} {p : Addr} {x0 x1 x2 y : Value} {b : Nat}
    (h : W.cell? ⟨b, 0, none⟩ = some x0 ∧ W.cell? ⟨b, 1, none⟩ = some x1 ∧ W.cell? ⟨b, 2, none⟩ = some x2 ∧ W.cell? p = some y ∧ VSt w L F v g m c f n cf W) (hb : Below W.heap.size W W') :
    W'.cell? ⟨b, 0, none⟩ = some x0 ∧ W'.cell? ⟨b, 1, none⟩ = some x1 ∧ W'.cell? ⟨b, 2, none⟩ = some x2 ∧ W'.cell? p = some y ∧ VSt w L F v g m c f n cf W' := by
  have k : ∀ {p : Addr} {x : Value}, W.cell? p = some x → W'.cell? p = some x := fun {p x} hx => (hb.cell (p := p) (World.block_lt_of_cell? W _ hx)).trans hx
  exact ⟨k h.1, k h.2.1, k h.2.2.1, k h.2.2.2.1, h.2.2.2.2.next hb⟩
theorem didx_S {w W : World} {L : List Sp} {F : List Int} {v : Int} {g m c f n cf : Nat} {p : Addr} {x0 x1 x2 y : Value} {b : Nat} (u sl : Value) (slot : Int)
    (h : W.cell? ⟨b, 0, none⟩ = some x0 ∧ W.cell? ⟨b, 1, none⟩ = some x1 ∧ W.cell? ⟨b, 2, none⟩ = some x2 ∧ W.cell? p = some y ∧ VSt w L F v g m c f n cf W) (hm : Hid (L.length = m)) (hm1 : m ≤ 100) :
    Calls Try.prog 104 #[.agg #[u, .slice (some ⟨g, 0, none⟩) m c, sl], .int .i64 slot] W (RetI L slot W) := didx_any L m hm.out hm1 g c u sl slot W h.2.2.2.2.2.1
set_option maxHeartbeats 8000000 in
set_option maxRecDepth 20000 in
theorem dval_any (L : List Sp) (F : List Int) (hG : GoodD L F) (m n : Nat) (hm : L.length = m) (hn : F.length = n) (hm1 : m ≤ 100) (g c f cf : Nat) (v : Int) (hv : 1 ≤ v ∧ v ≤ 1000) (w : World) (hr : RowP L g w) (hf : RowN F f w) :
    Calls Try.prog 103 #[.agg #[.int .i64 v, .slice (some ⟨g, 0, none⟩) m c, .slice (some ⟨f, 0, none⟩) n cf]] w (RetZ w) := by
  have HM := hide hm
  have HN := hide hn
  have HG := hide hG
  obtain ⟨hv1, hv2⟩ := hv
  have hn16 : (1 : Int) ≤ (n : Int) ∧ (n : Int) ≤ 6 := by have h1 := hG.2.2.2.1; have h2 := hG.2.2.2.2.1; omega
  obtain ⟨hn1, hn6⟩ := hn16
  have hm100 : (m : Int) ≤ 100 := by omega
  have HMem : Hid (∀ x ∈ L, 0 ≤ x.lo ∧ x.lo ≤ x.hi ∧ x.hi < 65536) := hide (chain_mem hG.1)
  have ba := (Below.refl w.heap.size w).alloc (Nat.le_refl _) (.cells #[.int .i64 v, .slice (some ⟨g, 0, none⟩) m c, .slice (some ⟨f, 0, none⟩) n cf] 40)
  have V0 : VSt w L F v g m c f n cf (w.alloc (.cells #[.int .i64 v, .slice (some ⟨g, 0, none⟩) m c, .slice (some ⟨f, 0, none⟩) n cf] 40)) := ⟨Box3.new _ _ _ _ _, hr.below ba hr.1, hf.below ba hf.1, ba⟩
  clear ba hr hf hG hm hn
  go_enter Try.func103, Try.ntmps103
  go_upto_region 1 with fail
  generalize w.alloc (.cells #[.int .i64 v, .slice (some ⟨g, 0, none⟩) m c, .slice (some ⟨f, 0, none⟩) n cf] 40) = w1 at *
  obtain ⟨_, q0, q1, q2⟩ := id V0.1
  have HV := hide V0
  clear V0
  go_wp2_with fail
  clear q0 q1 q2
  go_loopw [4, 5] (fun nx i wr => ∃ (k : Nat) (x : Int), k ≤ m ∧ i = .int .i64 k ∧ nx = .int .i64 x ∧ Hid (VSt w L F v g m c f n cf wr)) (fun _ i _ => m - (intOf i).toNat)
  case atStart => exact ⟨0, 0, Nat.zero_le _, rfl, rfl, HV⟩
  case round =>
    clear HV
    obtain ⟨k, x, hk, rfl, rfl, HV⟩ := hrel
    by_cases hlt : k < m
    · have hki : (k : Int) < (m : Int) := by omega
      have hk0 : (0 : Int) ≤ (k : Int) := by omega
      have hkl : k < L.length := by rw [HM.out]; exact hlt
      have hx := List.getElem?_eq_getElem hkl
      have hmem := HMem.out _ (List.getElem_mem hkl)
      obtain ⟨c0, c1, c2⟩ := HV.out.2.1.2 k _ hx
      generalize L[k] = y at *
      obtain ⟨y1, y2, y3⟩ := hmem
      have y4 : 0 ≤ y.hi := by omega
      obtain ⟨_, q0, q1, q2⟩ := id HV.out.1
      clear hx
      go_upto_region 9 with fail
      have HV2 := hide (HV.out.alloc (.cells #[.int .i64 y.lo, .int .i64 y.hi, .int .i64 y.sh] 44))
      have Y := Box3.new wr (.int .i64 y.lo) (.int .i64 y.hi) (.int .i64 y.sh) 44
      obtain ⟨_, r0, r1, r2⟩ := Y
      clear q0 q1 q2 c0 c1 c2 HV
      generalize wr.heap.size = B at *
      generalize wr.alloc (.cells #[.int .i64 y.lo, .int .i64 y.hi, .int .i64 y.sh] 44) = wx at *
      go_wp2_with fail
      all_goals first
        | (go_ret; exact ⟨_, rfl, HV2.out.2.2.2⟩)
        | (go_roundw
           case rel => exact ⟨k + 1, _, by omega, by go_num, rfl, HV2⟩
           case measure => simp [intOf]; omega)
    · obtain rfl : k = m := by omega
      obtain ⟨_, q0, q1, q2⟩ := id HV.out.1
      by_cases hx : x = 65536
      · have hxb : (x != 65536) = false := by rw [bne_eq_false_iff_eq]; exact hx
        clear hx hlt
        go_wp2_with fail
        go_loop [7] (fun i => ∃ j : Nat, j ≤ k ∧ i = .int .i64 j) (fun i => k - (intOf i).toNat)
        case atStart => exact ⟨0, Nat.zero_le _, rfl⟩
        case round =>
          obtain ⟨j, hj, rfl⟩ := hrel
          by_cases hlt : j < k
          · have hki : (j : Int) < (k : Int) := by omega
            have hk0 : (0 : Int) ≤ (j : Int) := by omega
            have hkl : j < L.length := by rw [HM.out]; exact hlt
            have hx := List.getElem?_eq_getElem hkl
            have hsh := HG.out.2.2.1 _ (List.getElem_mem hkl)
            rw [HN.out] at hsh
            obtain ⟨c0, c1, c2⟩ := HV.out.2.1.2 j _ hx
            generalize L[j] = y at *
            obtain ⟨y1, y2⟩ := hsh
            clear hx c0 c1
            go_wp2_with fail
            go_round
            case rel => exact ⟨j + 1, by omega, by go_num⟩
            case measure => simp [intOf]; omega
          · obtain rfl : j = k := by omega
            go_wp2_with fail
            clear q0 q1 q2
            go_loopw [8] (fun i wr => ∃ k : Nat, k ≤ j ∧ i = .int .i64 k ∧ Hid (VSt w L F v g j c f n cf wr)) (fun i _ => j - (intOf i).toNat)
            case atStart => exact ⟨0, Nat.zero_le _, rfl, HV⟩
            case round =>
              clear HV
              obtain ⟨k, hk, rfl, HV⟩ := hrel
              obtain ⟨_, q0, q1, q2⟩ := id HV.out.1
              by_cases hlt : k < j
              · have hki : (k : Int) < (j : Int) := by omega
                have hk0 : (0 : Int) ≤ (k : Int) := by omega
                have hkl : k < L.length := by rw [HM.out]; exact hlt
                have hx := List.getElem?_eq_getElem hkl
                obtain ⟨c0, c1, c2⟩ := HV.out.2.1.2 k _ hx
                generalize L[k] = y at *
                clear hx c0 c1
                have K0 : VSt w L F v g j c f n cf wr.drew := HV.out.drew
                go_wp2_with fail
                go_region_held3 (fun w' => w'.cell? ⟨w.heap.size, 0, none⟩ = some (.int .i64 v) ∧ w'.cell? ⟨w.heap.size, 1, none⟩ = some (.slice (some ⟨g, 0, none⟩) j c) ∧ w'.cell? ⟨w.heap.size, 2, none⟩ = some (.slice (some ⟨f, 0, none⟩) n cf) ∧ w'.cell? ⟨g, k * 3 + 2, none⟩ = some (.int .i64 y.sh) ∧ VSt w L F v g j c f n cf w')
                  (first | exact ⟨q0, q1, q2, c2, K0⟩ | exact keepV (by assumption) (by assumption) | assumption)
                  (first
                    | (go_at_call 104; refine (didx_S _ _ _ (by assumption) HM hm1).mono ?_; rintro e w' ⟨r, hr, rfl, hb⟩))
                all_goals
                  rename_i hS
                  have HV2 := hide hS.2.2.2.2
                  clear hS q0 q1 q2 c2 K0
                  go_wp2_with fail
                  all_goals first
                    | (go_ret; exact ⟨_, rfl, HV2.out.2.2.2⟩)
                    | (go_roundw
                       case rel => exact ⟨k + 1, by omega, by go_num, HV2⟩
                       case measure => simp [intOf]; omega)
              · obtain rfl : k = j := by omega
                go_wp2_with fail
                clear q0 q1 q2
                go_loopw [9] (fun i wr => ∃ j : Nat, j ≤ n ∧ i = .int .i64 j ∧ Hid (VSt w L F v g k c f n cf wr)) (fun i _ => n - (intOf i).toNat)
                case atStart => exact ⟨0, Nat.zero_le _, rfl, HV⟩
                case round =>
                  clear HV
                  obtain ⟨j, hj, rfl, HV⟩ := hrel
                  obtain ⟨_, q0, q1, q2⟩ := id HV.out.1
                  by_cases hlt : j < n
                  · have hki : (j : Int) < (n : Int) := by omega
                    have hk0 : (0 : Int) ≤ (j : Int) := by omega
                    have hkl : j < F.length := by rw [HN.out]; exact hlt
                    have hx := List.getElem?_eq_getElem hkl
                    have hz := HG.out.2.2.2.2.2 _ (List.getElem_mem hkl)
                    rw [HN.out] at hz
                    have c0 := HV.out.2.2.1.2 j _ hx
                    generalize F[j] = z at *
                    obtain ⟨z1, z2⟩ := hz
                    have HX := hide hx
                    clear hx
                    go_wp2_with fail
                    refine (didx_any L k HM.out hm1 g c _ _ _ _ HV.out.2.1).mono ?_
                    rintro e w5 ⟨r, hr, rfl, hb⟩
                    have V5 := HV.out.next hb
                    have c5 := V5.2.2.1.2 j _ HX.out
                    clear q0 q1 q2 c0 hb HV hr
                    obtain ⟨_, q0, q1, q2⟩ := id V5.1
                    have HV5 := hide V5
                    clear V5
                    by_cases hr0 : 0 ≤ r
                    · go_wp2_with fail
                      all_goals first
                        | (go_ret; exact ⟨_, rfl, HV5.out.2.2.2⟩)
                        | (go_roundw
                           case rel => exact ⟨j + 1, by omega, by go_num, HV5⟩
                           case measure => simp [intOf]; omega)
                    · have hr1 : r < 0 := by omega
                      clear hr0
                      go_wp2_with fail
                      go_roundw
                      case rel => exact ⟨j + 1, by omega, by go_num, HV5⟩
                      case measure => simp [intOf]; omega
                  · obtain rfl : j = n := by omega
                    go_wp2_with fail
                    go_loop [10] (fun i => ∃ i' : Nat, i' ≤ j ∧ i = .int .i64 i') (fun i => j - (intOf i).toNat)
                    case atStart => exact ⟨0, Nat.zero_le _, rfl⟩
                    case round =>
                      obtain ⟨i, hi, rfl⟩ := hrel
                      by_cases hlt : i < j
                      · have hki : (i : Int) < (j : Int) := by omega
                        have hk0 : (0 : Int) ≤ (i : Int) := by omega
                        go_wp2_with fail
                        go_loop [11, 12] (fun at_ k => ∃ (a : Int) (p : Nat), at_ = .int .i64 a ∧ -1 ≤ a ∧ a < (j : Int) ∧ k = .int .i64 p ∧ p ≤ j) (fun _ k => j - (intOf k).toNat)
                        case atStart => exact ⟨_, 0, rfl, by omega, hki, rfl, Nat.zero_le _⟩
                        case round =>
                          obtain ⟨a, p, rfl, ha1, ha2, rfl, hp⟩ := hrel
                          have hp0 : (0 : Int) ≤ (p : Int) := by omega
                          by_cases hlp : p < j
                          · have hpi : (p : Int) < (j : Int) := by omega
                            by_cases ha0 : 0 ≤ a
                            · obtain ⟨t, rfl⟩ := Int.eq_ofNat_of_zero_le ha0
                              have htl : t < F.length := by rw [HN.out]; omega
                              have hz := HG.out.2.2.2.2.2 _ (List.getElem_mem htl)
                              rw [HN.out] at hz
                              have c0 := HV.out.2.2.1.2 t _ (List.getElem?_eq_getElem htl)
                              generalize F[t] = z at *
                              obtain ⟨z1, z2⟩ := hz
                              go_wp2_with fail
                              go_round
                              case rel => exact ⟨_, p + 1, rfl, z1, z2, by go_num, by omega⟩
                              case measure => simp [intOf]; omega
                            · have ha3 : a < 0 := by omega
                              clear ha0
                              go_wp2_with fail
                              go_round
                              case rel => exact ⟨i + 1, by omega, by go_num⟩
                              case measure => simp [intOf]; omega
                          · have hpj : ¬ (p : Int) < (j : Int) := by omega
                            go_wp2_with fail
                            all_goals first
                              | (go_ret; exact ⟨_, rfl, HV.out.2.2.2⟩)
                              | (go_round
                                 case rel => exact ⟨i + 1, by omega, by go_num⟩
                                 case measure => simp [intOf]; omega)
                      · obtain rfl : i = j := by omega
                        go_wp2_with fail
                        go_ret
                        exact ⟨_, rfl, HV.out.2.2.2⟩
      · have hxb : (x != 65536) = true := by rw [bne_iff_ne]; exact hx
        clear hx
        go_wp2_with fail
        go_ret
        exact ⟨_, rfl, HV.out.2.2.2⟩
end Go.Proofs.Ytaoiekcoiooghaa
