/- The contracts of the receipt handles' Parse, of the program and of the reference, and of slices.Equal at bytes. Condition: the slice reads as a list of bytes. -/
import Derived.Test.YtaoiekcoiooghaaHn2
import Derived.Deep.QuietTactic
import Derived.BigQuiet
namespace Go.Proofs.Ytaoiekcoiooghaa
open Go.RowKit

/-- The four numbers at their places. -/
def pF0 (l : List UInt8) : Nat := beVal ((l.drop 1).take 4)
def pF1 (l : List UInt8) : Nat := beVal ((l.drop 5).take 3)
def pF2 (l : List UInt8) : Nat := beVal ((l.drop 8).take 2)
def pF3 (l : List UInt8) : Nat := beVal ((l.drop 10).take 1)
def ParOk (l : List UInt8) : Prop := l.length = 16 ∧ HOk (pF0 l) (pF1 l) (pF2 l) (pF3 l) ∧ tok (pF0 l) (pF1 l) (pF2 l) (pF3 l) = l
instance (l : List UInt8) : Decidable (ParOk l) := by unfold ParOk; infer_instance
/-- What Parse returns: the handle's cells, and the error. -/
def parV (l : List UInt8) : Value := if ParOk l then .agg #[.int .i64 (pF0 l : Nat), .int .i64 (pF1 l : Nat), .int .i64 (pF2 l : Nat), .int .i64 (pF3 l : Nat)] else .agg #[.int .i64 0, .int .i64 0, .int .i64 0, .int .i64 0]
def parE (l : List UInt8) : Int := if ParOk l then 0 else 8
def RetP (w : World) (l : List UInt8) (e : Ending) (w' : World) : Prop := e = .returned (.tuple #[parV l, .int .i64 (parE l)]) ∧ Below w.heap.size w w'

/-- None of a block's cells is frozen. -/
def Free (W : World) (b : Nat) : Prop := ∀ j, W.frozen? ⟨b, j, none⟩ = false
theorem Free.new (w : World) (cs : Array Value) (t : TypeId) : Free (w.alloc (.cells cs t)) w.heap.size := by
  intro j
  have h := heap_alloc_new w (.cells cs t)
  unfold World.frozen?
  rw [h]
  simp
theorem Free.below {W W' : World} {B b : Nat} (h : Free W b) (hb : Below B W W') (hB : b < B) : Free W' b := fun j => (hb.frozen (p := ⟨b, j, none⟩) hB).trans (h j)
theorem Free.alloc {W : World} {b : Nat} (h : Free W b) (hB : b < W.heap.size) (o : Obj) : Free (W.alloc o) b := h.below ((Below.refl _ _).alloc (Nat.le_refl _) o) hB
set_option maxHeartbeats 2000000 in
set_option maxRecDepth 20000 in
theorem rparse_any (l : List UInt8) (B : Nat) (A : Option Addr) (n c : Nat) (w : World) (hr : Reads w B A n (bvs l)) (hB : B ≤ w.heap.size) (hc : n ≤ c) (hcm : c ≤ maxLen) :
    Calls Try.prog 78 #[.slice A n c] w (RetP w l) := by
  have hln : l.length = n := by have := hr.1; rwa [bvs_length] at this
  by_cases h16 : n = 16
  · subst h16
    have hm16 : c ≤ maxLen := hcm
    have G0 : ∀ W, Reads W B A 16 (bvs l) → Calls Try.prog 57 #[.slice A 16 c, .int .i64 1, .int .i64 4] W fun e w' => e = .returned (.tuple #[.int .i64 (pF0 l : Nat), .int .i64 0]) ∧ W = w' := fun W h => rget_ok l B A 16 c 1 4 W h hc hcm (by decide) (by decide) (by decide)
    have G1 : ∀ W, Reads W B A 16 (bvs l) → Calls Try.prog 57 #[.slice A 16 c, .int .i64 5, .int .i64 3] W fun e w' => e = .returned (.tuple #[.int .i64 (pF1 l : Nat), .int .i64 0]) ∧ W = w' := fun W h => rget_ok l B A 16 c 5 3 W h hc hcm (by decide) (by decide) (by decide)
    have G2 : ∀ W, Reads W B A 16 (bvs l) → Calls Try.prog 57 #[.slice A 16 c, .int .i64 8, .int .i64 2] W fun e w' => e = .returned (.tuple #[.int .i64 (pF2 l : Nat), .int .i64 0]) ∧ W = w' := fun W h => rget_ok l B A 16 c 8 2 W h hc hcm (by decide) (by decide) (by decide)
    have G3 : ∀ W, Reads W B A 16 (bvs l) → Calls Try.prog 57 #[.slice A 16 c, .int .i64 10, .int .i64 1] W fun e w' => e = .returned (.tuple #[.int .i64 (pF3 l : Nat), .int .i64 0]) ∧ W = w' := fun W h => rget_ok l B A 16 c 10 1 W h hc hcm (by decide) (by decide) (by decide)
    have K0 := hide G0
    have K1 := hide G1
    have K2 := hide G2
    have K3 := hide G3
    clear G0 G1 G2 G3
    have HL := hide hln
    clear hln
    go_enter Try.func78, Try.ntmps78
    go_wp2_with fail
    refine (K0.out _ ((hr.alloc hB _).alloc (by simp; omega) _)).mono ?_
    rintro e w' ⟨rfl, rfl⟩
    go_wp2_with fail
    refine (K1.out _ ((hr.alloc hB _).alloc (by simp; omega) _)).mono ?_
    rintro e w' ⟨rfl, rfl⟩
    go_wp2_with fail
    refine (K2.out _ ((hr.alloc hB _).alloc (by simp; omega) _)).mono ?_
    rintro e w' ⟨rfl, rfl⟩
    go_wp2_with fail
    refine (K3.out _ ((hr.alloc hB _).alloc (by simp; omega) _)).mono ?_
    rintro e w' ⟨rfl, rfl⟩
    go_wp2_with fail
    have WB : Below w.heap.size w ((w.alloc (.cells #[.int .i64 0, .int .i64 0, .int .i64 0, .int .i64 0] 58)).alloc (.cells #[.int .i64 (pF0 l : Nat), .int .i64 (pF1 l : Nat), .int .i64 (pF2 l : Nat), .int .i64 (pF3 l : Nat)] 58)) := ((Below.refl _ _).alloc (Nat.le_refl _) _).alloc (by simp) _
    have X0 := (Box4.new w (.int .i64 0) (.int .i64 0) (.int .i64 0) (.int .i64 0) 58).alloc (.cells #[.int .i64 (pF0 l : Nat), .int .i64 (pF1 l : Nat), .int .i64 (pF2 l : Nat), .int .i64 (pF3 l : Nat)] 58)
    have X1 := Box4.new (w.alloc (.cells #[.int .i64 0, .int .i64 0, .int .i64 0, .int .i64 0] 58)) (.int .i64 (pF0 l : Nat)) (.int .i64 (pF1 l : Nat)) (.int .i64 (pF2 l : Nat)) (.int .i64 (pF3 l : Nat)) 58
    rw [World.size_alloc] at X1
    have F0 := (Free.new w #[.int .i64 0, .int .i64 0, .int .i64 0, .int .i64 0] 58).alloc (by simp) (.cells #[.int .i64 (pF0 l : Nat), .int .i64 (pF1 l : Nat), .int .i64 (pF2 l : Nat), .int .i64 (pF3 l : Nat)] 58)
    have hr0 := (hr.alloc hB (.cells #[.int .i64 0, .int .i64 0, .int .i64 0, .int .i64 0] 58)).alloc (by simp; omega) (.cells #[.int .i64 (pF0 l : Nat), .int .i64 (pF1 l : Nat), .int .i64 (pF2 l : Nat), .int .i64 (pF3 l : Nat)] 58)
    refine (rhenc_any _ _ _ _ _).mono ?_
    rintro e w1 ⟨v1, he, hown1, hb1⟩
    have W1 := WB.trans (hb1.mono WB.size)
    have X01 := X0.below hb1 X0.1
    have X11 := X1.below hb1 X1.1
    have F01 := F0.below hb1 X0.1
    have hr1 := hr0.below (hb1.mono (by simp; omega))
    clear X0 X1 F0 hr0 hb1 WB
    obtain ⟨A1, c1, hv1, hc1, hm1, hq1⟩ := hown1.shape
    obtain ⟨x0s, x00, x01, x02, x03⟩ := X01
    obtain ⟨x1s, x10, x11, x12, x13⟩ := X11
    have f0 := F01 0
    have f1 := F01 1
    have f2 := F01 2
    have f3 := F01 3
    subst he hv1
    clear hown1 F01
    by_cases hk : HOk (pF0 l) (pF1 l) (pF2 l) (pF3 l)
    · have e1 : encE (pF0 l) (pF1 l) (pF2 l) (pF3 l) = 0 := by rw [encE, if_pos hk]
      have e2 : encL (pF0 l) (pF1 l) (pF2 l) (pF3 l) = tok (pF0 l) (pF1 l) (pF2 l) (pF3 l) := by rw [encL, if_pos hk]; simp only [Int.toNat_natCast]
      rw [e1]
      rw [e2] at hq1 hc1 ⊢
      by_cases ht : tok (pF0 l) (pF1 l) (pF2 l) (pF3 l) = l
      · have HV : Hid (parV l = .agg #[.int .i64 (pF0 l : Nat), .int .i64 (pF1 l : Nat), .int .i64 (pF2 l : Nat), .int .i64 (pF3 l : Nat)]) := hide (by rw [parV, if_pos ⟨HL.out, hk, ht⟩])
        have HE : Hid (parE l = 0) := hide (by rw [parE, if_pos ⟨HL.out, hk, ht⟩])
        have hd : decide (tok (pF0 l) (pF1 l) (pF2 l) (pF3 l) = l) = true := decide_eq_true ht
        have hlt := tok_length (pF0 l) (pF1 l) (pF2 l) (pF3 l)
        rw [hlt] at hq1 hc1 ⊢
        clear e1 e2 hk ht hlt
        go_wp2_with fail
        refine (same_any _ _ _ _ _ _ _ _ _ _ _ hq1 hr1).mono ?_
        rintro e w' ⟨rfl, rfl⟩
        go_wp2_with fail
        refine bodyPost_ret (v := .tuple #[.agg #[.int .i64 (pF0 l : Nat), .int .i64 (pF1 l : Nat), .int .i64 (pF2 l : Nat), .int .i64 (pF3 l : Nat)], .int .i64 0]) (by simp [results, Try.results78, go_sem, x00, x01, x02, x03]) rfl ⟨by rw [HV.out, HE.out], ?_⟩
        exact (((W1.setCell (Nat.le_refl _) _).setCell (Nat.le_refl _) _).setCell (Nat.le_refl _) _).setCell (Nat.le_refl _) _
      · have HV : Hid (parV l = .agg #[.int .i64 0, .int .i64 0, .int .i64 0, .int .i64 0]) := hide (by rw [parV, if_neg (fun x => ht x.2.2)])
        have HE : Hid (parE l = 8) := hide (by rw [parE, if_neg (fun x => ht x.2.2)])
        have hd : decide (tok (pF0 l) (pF1 l) (pF2 l) (pF3 l) = l) = false := decide_eq_false ht
        have hlt := tok_length (pF0 l) (pF1 l) (pF2 l) (pF3 l)
        rw [hlt] at hq1 hc1 ⊢
        clear e1 e2 hk ht hlt
        go_wp2_with fail
        refine (same_any _ _ _ _ _ _ _ _ _ _ _ hq1 hr1).mono ?_
        rintro e w' ⟨rfl, rfl⟩
        go_wp2_with fail
        refine bodyPost_ret (v := .tuple #[.agg #[.int .i64 0, .int .i64 0, .int .i64 0, .int .i64 0], .int .i64 8]) (by simp [results, Try.results78, go_sem, x00, x01, x02, x03]) rfl ⟨by rw [HV.out, HE.out], ?_⟩
        exact (((W1.setCell (Nat.le_refl _) _).setCell (Nat.le_refl _) _).setCell (Nat.le_refl _) _).setCell (Nat.le_refl _) _
    · have e1 : encE (pF0 l) (pF1 l) (pF2 l) (pF3 l) = 1 := by rw [encE, if_neg hk]
      have HV : Hid (parV l = .agg #[.int .i64 0, .int .i64 0, .int .i64 0, .int .i64 0]) := hide (by rw [parV, if_neg (fun x => hk x.2.1)])
      have HE : Hid (parE l = 8) := hide (by rw [parE, if_neg (fun x => hk x.2.1)])
      rw [e1]
      clear e1 hk
      go_wp2_with fail
      refine bodyPost_ret (v := .tuple #[.agg #[.int .i64 0, .int .i64 0, .int .i64 0, .int .i64 0], .int .i64 8]) (by simp [results, Try.results78, go_sem, x00, x01, x02, x03]) rfl ⟨by rw [HV.out, HE.out], ?_⟩
      exact (((W1.setCell (Nat.le_refl _) _).setCell (Nat.le_refl _) _).setCell (Nat.le_refl _) _).setCell (Nat.le_refl _) _
  · have h1 : (n : Int) < 16 ∨ 16 < (n : Int) := by omega
    have hv : parV l = .agg #[.int .i64 0, .int .i64 0, .int .i64 0, .int .i64 0] := by rw [parV, if_neg (fun x => h16 (hln.symm.trans x.1))]
    have he : parE l = 8 := by rw [parE, if_neg (fun x => h16 (hln.symm.trans x.1))]
    have HV := hide hv
    have HE := hide he
    have hb : ((n : Int) != 16) = true := by rw [bne_iff_ne]; omega
    clear hln h16 h1 hv he
    go_enter Try.func78, Try.ntmps78
    go_wp2_with fail
    refine bodyPost_ret (v := .tuple #[.agg #[.int .i64 0, .int .i64 0, .int .i64 0, .int .i64 0], .int .i64 8]) (by simp [results, Try.results78, go_sem]) rfl ⟨by rw [HV.out, HE.out], (Below.refl _ _).alloc (Nat.le_refl _) _⟩

def RetQ (w : World) (b : Bool) (e : Ending) (w' : World) : Prop := e = .returned (.bool b) ∧ Below w.heap.size w w'
theorem below_drewN' {B : Nat} {a w : World} (h : Below B a w) (n : Nat) : Below B a (w.drewN n) := ⟨h.os, h.tape, h.output, h.size, h.block⟩
set_option maxHeartbeats 2000000 in
theorem equal_any (l m : List UInt8) (B B' : Nat) (A A' : Option Addr) (n n' c c' : Nat) (w : World) (hr : Reads w B A n (bvs l)) (hB : B ≤ w.heap.size) (hr' : Reads w B' A' n' (bvs m)) (hB' : B' ≤ w.heap.size) (hn : n ≤ maxLen) (hn' : n' ≤ maxLen) :
    Calls Try.prog 101 #[.slice A n c, .slice A' n' c'] w (RetQ w (decide (l = m))) := by
  unfold maxLen at hn hn'
  have hln : l.length = n := by have := hr.1; rwa [bvs_length] at this
  have hlm : m.length = n' := by have := hr'.1; rwa [bvs_length] at this
  by_cases hnn : n = n'
  · subst hnn
    have HL := hide hln
    have HM := hide hlm
    clear hln hlm
    go_enter Try.func101, Try.ntmps101
    go_wp2_with fail
    go_loopw [13] (fun i wr => ∃ k : Nat, k ≤ n ∧ i = .int .i64 k ∧ Hid (l.take k = m.take k) ∧ Below w.heap.size w wr) (fun i _ => n - (intOf i).toNat)
    case atStart => exact ⟨0, Nat.zero_le _, rfl, rfl, Below.refl _ _⟩
    case round =>
      obtain ⟨k, hk, rfl, HP, hb⟩ := hrel
      by_cases hlt : k < n
      · have hrr := (hr.more hB).below hb
        have hrr' := (hr'.more hB').below hb
        obtain ⟨b, o, rfl, _, hc1⟩ := hrr.at_ hlt
        obtain ⟨b', o', rfl, _, hc2⟩ := hrr'.at_ hlt
        have hl : k < l.length := by rw [HL.out]; exact hlt
        have hm : k < m.length := by rw [HM.out]; exact hlt
        have x1 := hc1 k _ (bvs_get l k hl)
        have x2 := hc2 k _ (bvs_get m k hm)
        have HT1 := hide (take_snoc l k hl)
        have HT2 := hide (take_snoc m k hm)
        generalize hx : l[k] = x at *
        generalize hy : m[k] = y at *
        have HX := hide hx
        have HY := hide hy
        clear hc1 hc2 hx hy hrr hrr' hr hr'
        have hki : (k : Int) < (n : Int) := by omega
        by_cases hxy : x = y
        · subst hxy
          go_wp2_with fail
          go_quiet (fail)
          go_wp2_with fail
          go_roundw
          case rel => exact ⟨k + 1, by omega, by go_num, by rw [HT1.out, HT2.out, HP.out]; rfl, below_drewN' hb _⟩
          case measure => simp [intOf]; omega
        · have hne : ((x.toNat : Int) != (y.toNat : Int)) = true := by rw [bne_iff_ne]; intro e; exact hxy (UInt8.toNat_inj.1 (by omega))
          have HD : Hid (decide (l = m) = false) := hide (decide_eq_false (fun e => hxy (by rw [← HX.out, ← HY.out]; simp only [e])))
          clear hxy
          go_wp2_with fail
          go_quiet (fail)
          go_wp2_with fail
          go_ret
          exact ⟨by rw [HD.out]; rfl, below_drewN' hb _⟩
      · have HD : Hid (decide (l = m) = true) := hide (decide_eq_true (by have := HP.out; rwa [List.take_of_length_le (by rw [HL.out]; omega), List.take_of_length_le (by rw [HM.out]; omega)] at this))
        go_wp2_with fail
        go_ret
        exact ⟨by rw [HD.out]; rfl, hb⟩
  · have HD : Hid (decide (l = m) = false) := hide (decide_eq_false (fun e => hnn (by rw [← hln, ← hlm, e])))
    have h1 : ((n : Int) != (n' : Int)) = true := by rw [bne_iff_ne]; omega
    clear hln hlm hnn
    go_enter Try.func101, Try.ntmps101
    go_wp2_with fail
    go_ret
    exact ⟨by rw [HD.out]; rfl, Below.refl _ _⟩
end Go.Proofs.Ytaoiekcoiooghaa
