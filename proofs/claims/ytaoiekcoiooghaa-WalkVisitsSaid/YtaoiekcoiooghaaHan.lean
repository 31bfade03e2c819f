/- The contracts of the receipt handles' Encode, of the program and of the reference. No condition. -/
import Derived.Test.YtaoiekcoiooghaaTot
import Derived.Test.YtaoiekcoiooghaaDg2
import Derived.Test.YtaoiekcoiooghaaLaw
namespace Go.Proofs.Ytaoiekcoiooghaa
open Go.RowKit

theorem hin_yes (n lo hi : Int) (w : World) (h1 : lo ≤ n) (h2 : n ≤ hi) : Calls Try.prog 97 #[.int .i64 n, .int .i64 lo, .int .i64 hi] w fun e w' => e = .returned (.bool true) ∧ w = w' := by
  go_enter Try.func97, Try.ntmps97
  go_wp2
  go_ret
  exact ⟨by simp, rfl⟩
theorem hin_no (n lo hi : Int) (w : World) (h : n < lo ∨ hi < n) : Calls Try.prog 97 #[.int .i64 n, .int .i64 lo, .int .i64 hi] w fun e w' => e = .returned (.bool false) ∧ w = w' := by
  rcases h with h | h
  all_goals
    go_enter Try.func97, Try.ntmps97
    go_wp2
    all_goals (go_ret; exact ⟨by simp <;> omega, rfl⟩)

/-- A literal of two bytes. -/
theorem reads_lit2 (w : World) (z z' : Int) (b b' : UInt8) (hz : z = b.toNat) (hz' : z' = b'.toNat) : Reads (w.alloc (.cells #[.int .u8 z, .int .u8 z'] 5)) (w.heap.size + 1) (some ⟨w.heap.size, 0, none⟩) 2 (bvs [b, b']) := by
  subst hz hz'
  refine ⟨rfl, fun _ => ⟨w.heap.size, 0, rfl, by omega, ?_⟩⟩
  intro j u hu
  match j, hu with
  | 0, hu =>
    simp only [bvs, List.map_cons, List.map_nil, List.getElem?_cons_zero, Option.some.injEq] at hu
    subst hu
    simp [bv, World.cell?_alloc_new]
  | 1, hu =>
    simp only [bvs, List.map_cons, List.map_nil, List.getElem?_cons_succ, List.getElem?_cons_zero, Option.some.injEq] at hu
    subst hu
    simp [bv, World.cell?_alloc_new]
  | j + 2, hu => simp [bvs] at hu
/-- A variable of four cells. -/
def Box4 (W : World) (b : Nat) (x0 x1 x2 x3 : Value) : Prop := b < W.heap.size ∧ W.cell? ⟨b, 0, none⟩ = some x0 ∧ W.cell? ⟨b, 1, none⟩ = some x1 ∧ W.cell? ⟨b, 2, none⟩ = some x2 ∧ W.cell? ⟨b, 3, none⟩ = some x3
theorem Box4.new (w : World) (x0 x1 x2 x3 : Value) (t : TypeId) : Box4 (w.alloc (.cells #[x0, x1, x2, x3] t)) w.heap.size x0 x1 x2 x3 := by
  refine ⟨by simp, ?_, ?_, ?_, ?_⟩ <;> simp [World.cell?_alloc_new]
theorem Box4.below {W W' : World} {B b : Nat} {x0 x1 x2 x3 : Value} (h : Box4 W b x0 x1 x2 x3) (hb : Below B W W') (hB : b < B) : Box4 W' b x0 x1 x2 x3 :=
  ⟨Nat.lt_of_lt_of_le h.1 hb.size, (hb.cell (p := ⟨b, 0, none⟩) hB).trans h.2.1, (hb.cell (p := ⟨b, 1, none⟩) hB).trans h.2.2.1, (hb.cell (p := ⟨b, 2, none⟩) hB).trans h.2.2.2.1, (hb.cell (p := ⟨b, 3, none⟩) hB).trans h.2.2.2.2⟩
theorem Box4.alloc {W : World} {b : Nat} {x0 x1 x2 x3 : Value} (h : Box4 W b x0 x1 x2 x3) (o : Obj) : Box4 (W.alloc o) b x0 x1 x2 x3 :=
  h.below ((Below.refl _ _).alloc (Nat.le_refl _) o) h.1
/-- A row of one byte, laid by the call itself. -/
theorem own_lit1 (w : World) (z : Int) (b : UInt8) (n : Nat) {base : Nat} (hb : base ≤ w.heap.size) (hn : n = w.heap.size) (hz : z = b.toNat) : OwnB (w.alloc (.cells #[.int .u8 z] 5)) base (.slice (some ⟨n, 0, none⟩) 1 1) [b] := by
  subst hn hz
  exact World.ownsRow_lit w #[.int .u8 (b.toNat : Int)] 1 hb (by decide) rfl
/-- The first twelve bytes of a handle, and all of them. -/
def tok5 (i g r h : Nat) : List UInt8 := ((([113] ++ be i 4) ++ be g 3) ++ be r 2) ++ be h 1 ++ be 0 1
def tok (i g r h : Nat) : List UInt8 := tok5 i g r h ++ be (fcheck (tok5 i g r h)) 4
theorem tok5_length (i g r h : Nat) : (tok5 i g r h).length = 12 := by simp [tok5, be_length]
theorem tok_length (i g r h : Nat) : (tok i g r h).length = 16 := by simp [tok, tok5_length, be_length]
def HOk (i g r h : Int) : Prop := 1 ≤ i ∧ i ≤ 1073741824 ∧ 1 ≤ g ∧ g ≤ 65536 ∧ 0 ≤ r ∧ r ≤ 65535 ∧ 0 ≤ h ∧ h ≤ 5
instance (i g r h : Int) : Decidable (HOk i g r h) := by unfold HOk; infer_instance
def encL (i g r h : Int) : List UInt8 := if HOk i g r h then tok i.toNat g.toNat r.toNat h.toNat else []
def encE (i g r h : Int) : Int := if HOk i g r h then 0 else 1
theorem fcheck_lt (l : List UInt8) : fcheck l < 4294967296 := fsum_lt _

theorem tok_parts {i g r h : Int} (hk : HOk i g r h) : ∃ T1 T2 T3 T4 T5 : List UInt8, putL [113] i 4 = T1 ∧ putE i 4 = 0 ∧ putL T1 g 3 = T2 ∧ putE g 3 = 0 ∧ putL T2 r 2 = T3 ∧ putE r 2 = 0 ∧ putL T3 h 1 = T4 ∧ putE h 1 = 0 ∧ putL T4 0 1 = T5 ∧ putE 0 1 = 0 ∧
    T3 ++ [UInt8.ofNat h.toNat, 0] = T5 ∧ (∀ z : Int, z = (fcheck T5 : Nat) → putL T5 z 4 = tok i.toNat g.toNat r.toNat h.toNat ∧ putE z 4 = 0) ∧ T1.length ≤ 16 ∧ T2.length ≤ 16 ∧ T3.length ≤ 16 ∧ T4.length ≤ 16 ∧ T5.length ≤ 16 := by
  obtain ⟨h1, h2, h3, h4, h5, h6, h7, h8⟩ := hk
  have p1 : (256 : Nat) ^ 1 = 256 := by decide
  have p2 : (256 : Nat) ^ 2 = 65536 := by decide
  have p3 : (256 : Nat) ^ 3 = 16777216 := by decide
  have p4 : (256 : Nat) ^ 4 = 4294967296 := by decide
  have q1 : PutOk i 4 := ⟨by decide, by decide, by omega, by show i < ((256 ^ 4 : Nat) : Int); rw [p4]; omega⟩
  have q2 : PutOk g 3 := ⟨by decide, by decide, by omega, by show g < ((256 ^ 3 : Nat) : Int); rw [p3]; omega⟩
  have q3 : PutOk r 2 := ⟨by decide, by decide, by omega, by show r < ((256 ^ 2 : Nat) : Int); rw [p2]; omega⟩
  have q4 : PutOk h 1 := ⟨by decide, by decide, by omega, by show h < ((256 ^ 1 : Nat) : Int); rw [p1]; omega⟩
  have q5 : PutOk 0 1 := ⟨by decide, by decide, by omega, by show (0:Int) < ((256 ^ 1 : Nat) : Int); rw [p1]; omega⟩
  refine ⟨[113] ++ be i.toNat 4, ([113] ++ be i.toNat 4) ++ be g.toNat 3, (([113] ++ be i.toNat 4) ++ be g.toNat 3) ++ be r.toNat 2, ((([113] ++ be i.toNat 4) ++ be g.toNat 3) ++ be r.toNat 2) ++ be h.toNat 1, tok5 i.toNat g.toNat r.toNat h.toNat, ?_⟩
  refine ⟨by rw [putL, if_pos q1]; rfl, by rw [putE, if_pos q1], by rw [putL, if_pos q2]; rfl, by rw [putE, if_pos q2], by rw [putL, if_pos q3]; rfl, by rw [putE, if_pos q3], by rw [putL, if_pos q4]; rfl, by rw [putE, if_pos q4], by rw [putL, if_pos q5]; rfl, by rw [putE, if_pos q5], ?_, ?_, ?_⟩
  · simp [tok5, be]
  · intro z hz
    have hc := fcheck_lt (tok5 i.toNat g.toNat r.toNat h.toNat)
    have q6 : PutOk z 4 := ⟨by decide, by decide, by omega, by show z < ((256 ^ 4 : Nat) : Int); rw [p4]; omega⟩
    refine ⟨?_, by rw [putE, if_pos q6]⟩
    rw [putL, if_pos q6, hz, Int.toNat_natCast]
    rfl
  · simp [be_length, tok5_length]

set_option maxHeartbeats 2000000 in
set_option maxRecDepth 20000 in
theorem rhenc_ok (i g r h : Int) (w : World) (hk : HOk i g r h) :
    Calls Try.prog 76 #[.agg #[.int .i64 i, .int .i64 g, .int .i64 r, .int .i64 h]] w (RetB w (tok i.toNat g.toNat r.toNat h.toNat) 0) := by
  obtain ⟨T1, T2, T3, T4, T5, e1, z1, e2, z2, e3, z3, _, _, _, _, e5, e6, n1, n2, n3, _, n5⟩ := tok_parts hk
  obtain ⟨h1, h2, h3, h4, h5, h6, h7, h8⟩ := hk
  have E1 := hide e1
  have Z1 := hide z1
  have E2 := hide e2
  have Z2 := hide z2
  have E3 := hide e3
  have Z3 := hide z3
  have E5 := hide e5
  have E6 := hide e6
  clear e1 z1 e2 z2 e3 z3 e5 e6
  have hown0 : OwnB ((w.alloc (.cells #[.int .i64 i, .int .i64 g, .int .i64 r, .int .i64 h] 58)).alloc (.cells #[.int .u8 113] 5)) w.heap.size (.slice (some ⟨w.heap.size + 1, 0, none⟩) 1 1) [113] :=
    own_lit1 _ 113 113 _ (by simp) (by simp) (by decide)
  have X0 := (Box4.new w (.int .i64 i) (.int .i64 g) (.int .i64 r) (.int .i64 h) 58).alloc (.cells #[.int .u8 113] 5)
  have W0 : Below w.heap.size w ((w.alloc (.cells #[.int .i64 i, .int .i64 g, .int .i64 r, .int .i64 h] 58)).alloc (.cells #[.int .u8 113] 5)) := ((Below.refl _ _).alloc (Nat.le_refl _) _).alloc (by simp) _
  go_enter Try.func76, Try.ntmps76
  go_wp2_with fail
  refine (rput_any [113] _ _ _ _ i 4 _ hown0.reads.2 (by decide)).mono ?_
  rintro e w1 ⟨v1, he, hown1, hb1⟩
  rw [Z1.out] at he
  rw [E1.out] at hown1
  subst he
  obtain ⟨A1, c1, hv1, hc1, hm1, hr1⟩ := hown1.shape
  subst hv1
  have X1 := X0.below hb1 X0.1
  have W1 := W0.trans (hb1.mono W0.size)
  have hb1s := hb1.size
  clear hown1 hb1 X0 W0 hown0
  have Y1 := X1
  obtain ⟨_, y0, y1, y2, y3⟩ := Y1
  go_wp2_with fail
  refine (rput_any T1 _ _ _ _ g 3 _ hr1 (by omega)).mono ?_
  rintro e w2 ⟨v2, he, hown2, hb2⟩
  rw [Z2.out] at he
  rw [E2.out] at hown2
  subst he
  obtain ⟨A2, c2, hv2, hc2, hm2, hr2⟩ := hown2.shape
  subst hv2
  have X2 := X1.below hb2 X1.1
  have W2 := W1.trans (hb2.mono W1.size)
  clear hown2 hb2 X1 W1 y0 y1 y2 y3
  have Y2 := X2
  obtain ⟨_, y0, y1, y2, y3⟩ := Y2
  go_wp2_with fail
  refine (rput_any T2 _ _ _ _ r 2 _ hr2 (by omega)).mono ?_
  rintro e w3 ⟨v3, he, hown3, hb3⟩
  rw [Z3.out] at he
  rw [E3.out] at hown3
  subst he
  have X3 := X2.below hb3 X2.1
  have W3 := W2.trans (hb3.mono W2.size)
  have hown3' := hown3.less W2.size
  clear hown3 hb3 X2 W2 y0 y1 y2 y3
  obtain ⟨A3, c3, hv3, hc3, hm3, hr3⟩ := hown3'.shape
  subst hv3
  have Y3 := X3
  obtain ⟨_, y0, y1, y2, y3⟩ := Y3
  have W3s := W3.size
  go_wp2_with (first
    | (at_builtin; refine wpList_app rfl _ _ rfl (hown3'.alloc _) rfl (reads_lit2 w3 _ _ (UInt8.ofNat h.toNat) 0 (by rw [UInt8.toNat_ofNat']; omega) (by decide)) rfl (by simp only [List.length_cons, List.length_nil]; omega) (by simp; omega) ?_; intro v4 w4 hown4 hg4 hb4 hat4; rw [E5.out] at hown4; obtain ⟨A4, c4, hv4, hc4, hm4, hr4⟩ := hown4.shape; subst hv4))
  have W4 := (W3.alloc W3.size _).trans hb4
  clear hown3' hb4 hg4 hat4 y0 y1 y2 y3 X3 W3
  refine (refcheck_any T5 _ _ _ _ _ hr4 (Nat.le_refl _) (by omega)).mono ?_
  rintro e w5 ⟨rfl, hb5⟩
  have W5 := W4.trans (hb5.mono W4.size)
  have hr5 := hr4.below hb5
  go_wp2_with fail
  obtain ⟨e6, z6⟩ := E6.out _ rfl
  have E7 := hide e6
  have Z7 := hide z6
  clear e6 z6
  refine (rput_any T5 _ _ _ _ _ 4 _ hr5 (by omega)).mono ?_
  rintro e w6 ⟨v6, he, hown6, hb6⟩
  rw [Z7.out] at he
  rw [E7.out] at hown6
  subst he
  have W6 := W5.trans (hb6.mono W5.size)
  have hown6' := hown6.less W5.size
  clear hown6 hb6 W5 W4 hb5
  go_wp2_with fail
  go_ret2
  exact ⟨_, rfl, hown6', W6⟩

theorem not_HOk {i g r h : Int} (hk : ¬ HOk i g r h) : i < 1 ∨ (1 ≤ i ∧ 1073741824 < i) ∨ (1 ≤ i ∧ i ≤ 1073741824 ∧ g < 1) ∨ (1 ≤ i ∧ i ≤ 1073741824 ∧ 1 ≤ g ∧ 65536 < g) ∨ (1 ≤ i ∧ i ≤ 1073741824 ∧ 1 ≤ g ∧ g ≤ 65536 ∧ r < 0) ∨ (1 ≤ i ∧ i ≤ 1073741824 ∧ 1 ≤ g ∧ g ≤ 65536 ∧ 0 ≤ r ∧ 65535 < r) ∨
    (1 ≤ i ∧ i ≤ 1073741824 ∧ 1 ≤ g ∧ g ≤ 65536 ∧ 0 ≤ r ∧ r ≤ 65535 ∧ h < 0) ∨ (1 ≤ i ∧ i ≤ 1073741824 ∧ 1 ≤ g ∧ g ≤ 65536 ∧ 0 ≤ r ∧ r ≤ 65535 ∧ 0 ≤ h ∧ 5 < h) := by
  unfold HOk at hk
  omega
theorem retB_err (w w' : World) (hb : Below w.heap.size w w') : RetB w [] 1 (.returned (.tuple #[.slice none 0 0, .int .i64 1])) w' := ⟨_, rfl, OwnB.nil _ _, hb⟩
set_option maxHeartbeats 2000000 in
set_option maxRecDepth 20000 in
theorem rhenc_err (i g r h : Int) (w : World) (hk : ¬ HOk i g r h) :
    Calls Try.prog 76 #[.agg #[.int .i64 i, .int .i64 g, .int .i64 r, .int .i64 h]] w (RetB w [] 1) := by
  rcases not_HOk hk with h1 | ⟨h1, h2⟩ | ⟨h1, h2, h3⟩ | ⟨h1, h2, h3, h4⟩ | ⟨h1, h2, h3, h4, h5⟩ | ⟨h1, h2, h3, h4, h5, h6⟩ | ⟨h1, h2, h3, h4, h5, h6, h7⟩ | ⟨h1, h2, h3, h4, h5, h6, h7, h8⟩
  all_goals
    clear hk
    go_enter Try.func76, Try.ntmps76
    go_wp2_with fail
    go_ret2
    exact retB_err _ _ ((Below.refl _ _).alloc (Nat.le_refl _) _)

set_option maxHeartbeats 2000000 in
set_option maxRecDepth 20000 in
theorem henc_err (i g r h : Int) (w : World) (hk : ¬ HOk i g r h) :
    Calls Try.prog 49 #[.agg #[.int .i64 i, .int .i64 g, .int .i64 r, .int .i64 h]] w (RetB w [] 1) := by
  by_cases a1 : 1 ≤ i ∧ i ≤ 1073741824
  · by_cases a2 : 1 ≤ g ∧ g ≤ 65536
    · by_cases a3 : 0 ≤ r ∧ r ≤ 65535
      · have a4 : h < 0 ∨ 5 < h := by unfold HOk at hk; omega
        clear hk
        go_enter Try.func49, Try.ntmps49
        go_wp2_with fail
        refine (hin_yes _ _ _ _ a1.1 a1.2).mono ?_; rintro e w' ⟨rfl, rfl⟩
        go_wp2_with fail
        refine (hin_yes _ _ _ _ a2.1 a2.2).mono ?_; rintro e w' ⟨rfl, rfl⟩
        go_wp2_with fail
        refine (hin_yes _ _ _ _ a3.1 a3.2).mono ?_; rintro e w' ⟨rfl, rfl⟩
        go_wp2_with fail
        refine (hin_no _ _ _ _ a4).mono ?_; rintro e w' ⟨rfl, rfl⟩
        go_wp2_with fail
        go_ret2
        exact retB_err _ _ ((Below.refl _ _).alloc (Nat.le_refl _) _)
      · have a4 : r < 0 ∨ 65535 < r := by omega
        clear hk a3
        go_enter Try.func49, Try.ntmps49
        go_wp2_with fail
        refine (hin_yes _ _ _ _ a1.1 a1.2).mono ?_; rintro e w' ⟨rfl, rfl⟩
        go_wp2_with fail
        refine (hin_yes _ _ _ _ a2.1 a2.2).mono ?_; rintro e w' ⟨rfl, rfl⟩
        go_wp2_with fail
        refine (hin_no _ _ _ _ a4).mono ?_; rintro e w' ⟨rfl, rfl⟩
        go_wp2_with fail
        go_ret2
        exact retB_err _ _ ((Below.refl _ _).alloc (Nat.le_refl _) _)
    · have a4 : g < 1 ∨ 65536 < g := by omega
      clear hk a2
      go_enter Try.func49, Try.ntmps49
      go_wp2_with fail
      refine (hin_yes _ _ _ _ a1.1 a1.2).mono ?_; rintro e w' ⟨rfl, rfl⟩
      go_wp2_with fail
      refine (hin_no _ _ _ _ a4).mono ?_; rintro e w' ⟨rfl, rfl⟩
      go_wp2_with fail
      go_ret2
      exact retB_err _ _ ((Below.refl _ _).alloc (Nat.le_refl _) _)
  · have a4 : i < 1 ∨ 1073741824 < i := by omega
    clear hk a1
    go_enter Try.func49, Try.ntmps49
    go_wp2_with fail
    refine (hin_no _ _ _ _ a4).mono ?_; rintro e w' ⟨rfl, rfl⟩
    go_wp2_with fail
    go_ret2
    exact retB_err _ _ ((Below.refl _ _).alloc (Nat.le_refl _) _)
end Go.Proofs.Ytaoiekcoiooghaa
