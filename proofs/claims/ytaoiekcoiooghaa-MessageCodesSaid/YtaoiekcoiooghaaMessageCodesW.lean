/- The walk of 'MessageCodes': it returns true. No condition. -/
import Derived.Test.YtaoiekcoiooghaaMsh
import Derived.Test.YtaoiekcoiooghaaMsi
import Derived.Test.YtaoiekcoiooghaaMsj
import Derived.Test.YtaoiekcoiooghaaBs4
import Derived.Test.YtaoiekcoiooghaaMs3
import Derived.Deep.RegionLaw
namespace Go.Proofs.Ytaoiekcoiooghaa
open Go.RowKit
/-- The message at the place k of the list in block g. -/
def MAt2 (W : World) (g k : Nat) (m0 m1 m2 m3 m4 m5 : Int) (sm : ByteArray) : Prop := W.cell? ⟨g, k * 7, none⟩ = some (.int .i64 m0) ∧ W.cell? ⟨g, k * 7 + 1, none⟩ = some (.int .i64 m1) ∧ W.cell? ⟨g, k * 7 + 2, none⟩ = some (.int .i64 m2) ∧ W.cell? ⟨g, k * 7 + 3, none⟩ = some (.int .i64 m3) ∧ W.cell? ⟨g, k * 7 + 4, none⟩ = some (.int .i64 m4) ∧ W.cell? ⟨g, k * 7 + 5, none⟩ = some (.int .i64 m5) ∧ W.cell? ⟨g, k * 7 + 6, none⟩ = some (.string sm)
/-- A list of two messages. -/
def Row2 (W : World) (g : Nat) : Prop := g < W.heap.size ∧ ∀ k, k < 2 → ∃ (m0 m1 m2 m3 m4 m5 : Int) (sm : ByteArray), MAt2 W g k m0 m1 m2 m3 m4 m5 sm
theorem Row2.below {W W' : World} {g : Nat} (h : Row2 W g) (hb : Below W.heap.size W W') : Row2 W' g := by
  refine ⟨Nat.lt_of_lt_of_le h.1 hb.size, fun k hk => ?_⟩
  obtain ⟨m0, m1, m2, m3, m4, m5, sm, h0, h1, h2, h3, h4, h5, h6⟩ := h.2 k hk
  exact ⟨m0, m1, m2, m3, m4, m5, sm, (hb.cell (p := ⟨g, k * 7, none⟩) h.1).trans h0, (hb.cell (p := ⟨g, k * 7 + 1, none⟩) h.1).trans h1, (hb.cell (p := ⟨g, k * 7 + 2, none⟩) h.1).trans h2, (hb.cell (p := ⟨g, k * 7 + 3, none⟩) h.1).trans h3, (hb.cell (p := ⟨g, k * 7 + 4, none⟩) h.1).trans h4, (hb.cell (p := ⟨g, k * 7 + 5, none⟩) h.1).trans h5, (hb.cell (p := ⟨g, k * 7 + 6, none⟩) h.1).trans h6⟩
theorem Row2.new (w : World) (a0 : Int) (a1 : Int) (a2 : Int) (a3 : Int) (a4 : Int) (a5 : Int) (a6 : Int) (a7 : Int) (a8 : Int) (a9 : Int) (a10 : Int) (a11 : Int) (s0 s1 : ByteArray) : Row2 (w.alloc (.cells #[.int .i64 a0, .int .i64 a1, .int .i64 a2, .int .i64 a3, .int .i64 a4, .int .i64 a5, .string s0, .int .i64 a6, .int .i64 a7, .int .i64 a8, .int .i64 a9, .int .i64 a10, .int .i64 a11, .string s1] 75)) w.heap.size := by
  refine ⟨by simp, fun k hk => ?_⟩
  rcases (by omega : k = 0 ∨ k = 1) with rfl | rfl
  · exact ⟨a0, a1, a2, a3, a4, a5, s0, by simp [World.cell?_alloc_new], by simp [World.cell?_alloc_new], by simp [World.cell?_alloc_new], by simp [World.cell?_alloc_new], by simp [World.cell?_alloc_new], by simp [World.cell?_alloc_new], by simp [World.cell?_alloc_new]⟩
  · exact ⟨a6, a7, a8, a9, a10, a11, s1, by simp [World.cell?_alloc_new], by simp [World.cell?_alloc_new], by simp [World.cell?_alloc_new], by simp [World.cell?_alloc_new], by simp [World.cell?_alloc_new], by simp [World.cell?_alloc_new], by simp [World.cell?_alloc_new]⟩
/-- The code that is changed: the reader, and a row of the call's own. -/
def CSt (w : World) (bs base : Nat) (v : Value) (n : Nat) (W : World) : Prop := Src W bs ∧ Below w.heap.size w W ∧ w.heap.size ≤ bs ∧ bs < base ∧ ∃ L : List UInt8, L.length = n ∧ OwnB W base v L
theorem CSt.oth {w W W' : World} {bs base n : Nat} {v : Value} (h : CSt w bs base v n W) (hs : Src W' bs) (ho : Oth W.heap.size bs W W') : CSt w bs base v n W' := by
  obtain ⟨_, h2, h3, h4, L, h5, h6⟩ := h
  exact ⟨hs, h2.trans ((ho.mono h2.size).below (Nat.le_refl _) h3), h3, h4, L, h5, h6.oth ho h4⟩
theorem CSt.below {w W W' : World} {bs base n B : Nat} {v : Value} (h : CSt w bs base v n W) (hb : Below B W W') (hB : W.heap.size ≤ B) : CSt w bs base v n W' := by
  obtain ⟨h1, h2, h3, h4, L, h5, h6⟩ := h
  exact ⟨h1.below hb (Nat.lt_of_lt_of_le h1.1 hB), h2.trans (hb.mono (Nat.le_trans h2.size hB)), h3, h4, L, h5, h6.below hb hB⟩
theorem CSt.alloc {w W : World} {bs base n : Nat} {v : Value} (h : CSt w bs base v n W) (o : Obj) : CSt w bs base v n (W.alloc o) := h.below ((Below.refl _ _).alloc (Nat.le_refl _) o) (Nat.le_refl _)
theorem CSt.reads {w W : World} {bs base n g c : Nat} (h : CSt w bs base (.slice (some ⟨g, 0, none⟩) n c) n W) : ∃ L : List UInt8, L.length = n ∧ Reads W W.heap.size (some ⟨g, 0, none⟩) n (bvs L) ∧ n ≤ c ∧ c ≤ maxLen := by
  obtain ⟨_, _, _, _, L, h5, h6⟩ := h
  obtain ⟨A, c', hv, h7, h8, h9⟩ := h6.shape
  injection hv with e1 e2 e3
  subst e1 e2 e3
  exact ⟨L, rfl, h9, h7, h8⟩
theorem Reads.oth {w w' : World} {B b n : Nat} {A : Option Addr} {xs : List Value} (h : Reads w B A n xs) (ho : Oth B b w w') (hA : ∀ a : Addr, A = some a → a.block ≠ b) : Reads w' B A n xs :=
  ⟨h.1, fun hn => by
    obtain ⟨g, o, e, hb, hc⟩ := h.2 hn
    exact ⟨g, o, e, hb, fun j u hu => (ho.cell (p := ⟨g, o + j, none⟩) hb (by have := hA _ e; exact this)).trans (hc j u hu)⟩⟩
/-- The literal that is appended, over the reading of a number. -/
theorem litO {w W W' : World} {bs base n : Nat} {v : Value} (h : CSt w bs base v n W) (_hs : Src W' bs) (ho : Oth (W.alloc (.cells #[.int .u8 0] 5)).heap.size bs (W.alloc (.cells #[.int .u8 0] 5)) W') : Reads W' W'.heap.size (some ⟨W.heap.size, 0, none⟩) 1 (bvs [0]) := by
  refine ((reads_lit1 W 0 0 rfl).oth (ho.mono (by simp)) ?_).more (by have := ho.size; simpa using this)
  intro a ha
  injection ha with ha
  subst ha
  have := h.1.1
  simp
  omega
/-- Four slices of bytes in the block g. -/
def RowS (W : World) (g : Nat) : Prop := g < W.heap.size ∧ ∀ k, k < 4 → ∃ (A : Option Addr) (n c : Nat) (l : List UInt8) (B : Nat), W.cell? ⟨g, k, none⟩ = some (.slice A n c) ∧ Reads W B A n (bvs l) ∧ B ≤ W.heap.size ∧ n ≤ c ∧ c ≤ maxLen
theorem RowS.below {W W' : World} {g : Nat} (h : RowS W g) (hb : Below W.heap.size W W') : RowS W' g := by
  refine ⟨Nat.lt_of_lt_of_le h.1 hb.size, fun k hk => ?_⟩
  obtain ⟨A, n, c, l, B, h1, h2, h3, h4, h5⟩ := h.2 k hk
  exact ⟨A, n, c, l, B, (hb.cell (p := ⟨g, k, none⟩) h.1).trans h1, h2.below (hb.mono h3), Nat.le_trans h3 hb.size, h4, h5⟩
theorem RowS.new (w : World) (t : TypeId) {A0 A1 A2 A3 : Option Addr} {n0 n1 n2 n3 c0 c1 c2 c3 : Nat} {l0 l1 l2 l3 : List UInt8} (h0 : Reads w w.heap.size A0 n0 (bvs l0)) (k0 : n0 ≤ c0) (m0 : c0 ≤ maxLen) (h1 : Reads w w.heap.size A1 n1 (bvs l1)) (k1 : n1 ≤ c1) (m1 : c1 ≤ maxLen)
    (h2 : Reads w w.heap.size A2 n2 (bvs l2)) (k2 : n2 ≤ c2) (m2 : c2 ≤ maxLen) (h3 : Reads w w.heap.size A3 n3 (bvs l3)) (k3 : n3 ≤ c3) (m3 : c3 ≤ maxLen) : RowS (w.alloc (.cells #[.slice A0 n0 c0, .slice A1 n1 c1, .slice A2 n2 c2, .slice A3 n3 c3] t)) w.heap.size := by
  refine ⟨by simp, fun k hk => ?_⟩
  have hs : w.heap.size ≤ (w.alloc (.cells #[.slice A0 n0 c0, .slice A1 n1 c1, .slice A2 n2 c2, .slice A3 n3 c3] t)).heap.size := by simp
  rcases (by omega : k = 0 ∨ k = 1 ∨ k = 2 ∨ k = 3) with rfl | rfl | rfl | rfl
  · exact ⟨A0, n0, c0, l0, _, by simp [World.cell?_alloc_new], h0.alloc (Nat.le_refl _) _, hs, k0, m0⟩
  · exact ⟨A1, n1, c1, l1, _, by simp [World.cell?_alloc_new], h1.alloc (Nat.le_refl _) _, hs, k1, m1⟩
  · exact ⟨A2, n2, c2, l2, _, by simp [World.cell?_alloc_new], h2.alloc (Nat.le_refl _) _, hs, k2, m2⟩
  · exact ⟨A3, n3, c3, l3, _, by simp [World.cell?_alloc_new], h3.alloc (Nat.le_refl _) _, hs, k3, m3⟩
theorem step_app {w : World} {ops : Array Oper} {o : Oper} {a : Act} {K : Act → World → Prop} {Q : Exit → Act → World → Prop} {E : Prop} (hgd : o.guard = none) (s x : Operand)
    (ho : o.op = .call { callee := .builtin .append, args := #[s, x], argTypes := #[47, 47] })
    {base : Nat} {v : Value} {l : List UInt8} (hown : OwnB w base v l) (hs : a.eval s = v)
    {B : Nat} {A : Option Addr} {m c : Nat} {news : List UInt8} (hr : Reads w B A m (bvs news)) (hx : a.eval x = .slice A m c)
    (hlen : l.length + news.length ≤ 1099511627776) (hbase : base ≤ w.heap.size)
    (h : ∀ v' w', OwnB w' base v' (l ++ news) → w.grownBy w' v.ownBlock → Below base w w' → (v'.ownBlock = v.ownBlock ∨ v'.ownBlock = some w.heap.size) → K (a.put o.dst v') w') :
    if Region.wanted o (yielded ops a.tmps) = true then Oper.wp Try.prog o a w K Q else E := by
  obtain ⟨i0, hi0, hz0, hz1, hz2⟩ := info_parts info5
  have hm : m = news.length := by have := hr.1; rw [bvs_length] at this; omega
  subst hm
  refine step_append_any w hgd s x 47 ho base 5 i0 _ 1 Try.underlying47 hi0 hz0 hz1 hz2 rfl v l.length (bvs l) hs hown B A _ c (bvs news) hx hr (bvs_one _) (by simp only [maxLen]; omega) (by omega) hbase ?_
  intro v' w' hown' hg hat
  refine h v' w' ?_ hg ?_ hat
  · unfold OwnB
    rw [bvs_append, List.length_append]
    exact hown'
  · exact (Below.refl base w).grown hg hbase fun k hk => (hown.lt k hk).1
theorem CSt.drew {w W : World} {bs base n : Nat} {v : Value} (h : CSt w bs base v n W) : CSt w bs base v n W.drew := ⟨h.1.drew, h.2.1.drew, h.2.2.1, h.2.2.2.1, h.2.2.2.2⟩
theorem CSt.head {w W : World} {bs base n : Nat} {v : Value} (h : CSt w bs base v n W) {k : Nat} (hk : k < n) : ∃ g c, v = .slice (some ⟨g, 0, none⟩) n c ∧ (∃ x : UInt8, W.cell? ⟨g, k, none⟩ = some (.int .u8 (x.toNat : Int))) ∧ W.frozen? ⟨g, k, none⟩ = false := by
  obtain ⟨_, _, _, _, L, h5, h6⟩ := h
  obtain ⟨g, c, hv, _, _, _, _, hcell, hfr, _⟩ := h6.head (by omega)
  exact ⟨g, c, by rw [hv, h5], ⟨L[k], hcell k (by omega)⟩, hfr k⟩
theorem CSt.set {w W : World} {bs base n g c : Nat} (h : CSt w bs base (.slice (some ⟨g, 0, none⟩) n c) n W) {k : Nat} (hk : k < n) (V : Int) (h0 : 0 ≤ V) (h1 : V < 256) : CSt w bs base (.slice (some ⟨g, 0, none⟩) n c) n (W.setCell ⟨g, k, none⟩ (.int .u8 V)) := by
  obtain ⟨h1', h2, h3, h4, L, h5, h6⟩ := h
  obtain ⟨L', e, h7⟩ := h6.setV (j := k) (by omega) V h0 h1
  have hg : base ≤ g := by
    obtain ⟨g', c', hv, _, _, hb, _⟩ := h6.head (by omega)
    have hgg : g = g' := by injection hv with hv _ _; injection hv with hv; injection hv with hv
    subst hgg
    exact hb
  exact ⟨h1'.set (p := ⟨g, k, none⟩) (by simp; omega) _, h2.setCell (p := ⟨g, k, none⟩) (by simp; have := h3; omega) _, h3, h4, L', by omega, h7⟩
theorem xor_byte (x y : Int) : 0 ≤ bits .xor .u8 x y ∧ bits .xor .u8 x y < 256 := by
  have := bits_within .xor .u8 x y
  rw [show IntKind.u8.min = 0 by decide, show IntKind.u8.max = 255 by decide] at this
  omega
theorem hb255 {y : Int} (h : y ≤ 256 - 1) : y ≤ 255 := by omega
theorem lt_of_le_pred {k N : Nat} (h : (k : Int) ≤ (N : Int) - 1) : k < N := by omega
set_option maxHeartbeats 16000000 in
set_option maxRecDepth 20000 in
theorem messageCodes_walk (x00 x01 x02 x03 x04 x05 : Int) (s0 : ByteArray) (A1 : Option Addr) (n1 c1 : Nat) (l1 : List UInt8) (A2 : Option Addr) (n2 c2 : Nat) (l2 : List Int) (w : World) (_w00 : -9223372036854775808 ≤ x00 ∧ x00 ≤ 9223372036854775807) (_w01 : -9223372036854775808 ≤ x01 ∧ x01 ≤ 9223372036854775807) (_w02 : -9223372036854775808 ≤ x02 ∧ x02 ≤ 9223372036854775807) (_w03 : -9223372036854775808 ≤ x03 ∧ x03 ≤ 9223372036854775807) (_w04 : -9223372036854775808 ≤ x04 ∧ x04 ≤ 9223372036854775807) (_w05 : -9223372036854775808 ≤ x05 ∧ x05 ≤ 9223372036854775807) (w1 : Reads w w.heap.size A1 n1 (bvs l1)) (k1 : n1 ≤ c1) (m1 : c1 ≤ maxLen) (w2 : Reads w w.heap.size A2 n2 (ivs l2)) (k2 : n2 ≤ c2) (m2 : c2 ≤ maxLen) (b2 : ∀ x ∈ l2, -9223372036854775808 ≤ x ∧ x ≤ 9223372036854775807) :
    Calls Try.prog 25 #[.agg #[.int .i64 x00, .int .i64 x01, .int .i64 x02, .int .i64 x03, .int .i64 x04, .int .i64 x05, .string s0], .slice A1 n1 c1, .slice A2 n2 c2] w fun e w' => e = .returned (.bool true) ∧ Below w.heap.size w w' := by
  clear _w00 _w01 _w02 _w03 _w04 _w05
  have BB := hide b2
  have HR1 := hide w1
  have HK1 := hide k1
  have HM1 := hide m1
  have HR2 := hide w2
  have HK2 := hide k2
  have HM2 := hide m2
  clear b2 w1 k1 m1 w2 k2 m2
  have W0 : Below w.heap.size w (w.alloc (.cells #[.int .i64 x00, .int .i64 x01, .int .i64 x02, .int .i64 x03, .int .i64 x04, .int .i64 x05, .string s0] 75)) := (Below.refl _ _).alloc (Nat.le_refl _) _
  have X0 := Box7.new w x00 x01 x02 x03 x04 x05 s0 75
  by_cases h1 : (100 : Int) < (s0.size : Int)
  · go_enter Try.func25, Try.ntmps25
    go_wp2_with fail
    go_ret
    exact ⟨rfl, W0⟩
  · by_cases h2 : (100 : Int) < (n1 : Int)
    · go_enter Try.func25, Try.ntmps25
      go_wp2_with fail
      go_ret
      exact ⟨rfl, W0⟩
    · have hr := (HR2.out.alloc (Nat.le_refl _) (.cells #[.int .i64 x00, .int .i64 x01, .int .i64 x02, .int .i64 x03, .int .i64 x04, .int .i64 x05, .string s0] 75)).more (Nat.le_of_lt X0.1)
      have HX0 := hide X0
      have hbs0 := X0.1
      go_enter Try.func25, Try.ntmps25
      go_wp2_with fail
      refine (bnew_any _ _ _ _ _ hr HK2.out HM2.out BB.out).mono ?_
      rintro e v1 ⟨rfl, S, hb⟩
      have W1 := W0.trans (hb.mono W0.size)
      have X1 := HX0.out.below hb HX0.out.1
      clear hb hr W0 X0 HX0 HR2 HK2 HM2 BB
      generalize (w.alloc (.cells #[.int .i64 x00, .int .i64 x01, .int .i64 x02, .int .i64 x03, .int .i64 x04, .int .i64 x05, .string s0] 75)).heap.size = bs at *
      have HS := hide S
      clear S
      go_wp2_with fail
      refine (brange_any bs 1 300 _ HS.out (by decide) (by decide) (by decide) (by decide)).mono ?_
      rintro e v2 ⟨iD, hi1, hi2, rfl, S2, ho⟩
      have W2 := W1.trans ((ho.mono W1.size).below (Nat.le_refl _) (Nat.le_of_lt hbs0))
      have X2 := X1.oth ho X1.1 (by omega)
      clear ho HS W1 X1 hi1 hi2
      have HS := hide S2
      clear S2
      go_wp2_with fail
      refine (bodd_any bs _ _ _ _ HS.out).mono ?_
      rintro e v3 ⟨o0, o1, o2, o3, o4, o5, so, rfl, S3, ho⟩
      have W3 := W2.trans ((ho.mono W2.size).below (Nat.le_refl _) (Nat.le_of_lt hbs0))
      have X3 := X2.oth ho X2.1 (by omega)
      clear ho HS W2 X2
      have W3 := W3.alloc W3.size (.cells #[.int .i64 o0, .int .i64 o1, .int .i64 o2, .int .i64 o3, .int .i64 o4, .int .i64 o5, .string so] 75)
      have Y3 := Box7.new v3 o0 o1 o2 o3 o4 o5 so 75
      have S3 := S3.alloc (.cells #[.int .i64 o0, .int .i64 o1, .int .i64 o2, .int .i64 o3, .int .i64 o4, .int .i64 o5, .string so] 75)
      have X3 := X3.alloc (.cells #[.int .i64 o0, .int .i64 o1, .int .i64 o2, .int .i64 o3, .int .i64 o4, .int .i64 o5, .string so] 75)
      obtain ⟨_, q0, q1, q2, q3, q4, q5, q6⟩ := X3
      obtain ⟨_, r0, r1, r2, r3, r4, r5, r6⟩ := Y3
      have HS := hide S3
      clear S3
      go_upto_region 6 with fail
      have R4 := Row2.new (v3.alloc (.cells #[.int .i64 o0, .int .i64 o1, .int .i64 o2, .int .i64 o3, .int .i64 o4, .int .i64 o5, .string so] 75)) x00 x01 x02 x03 x04 x05 o0 o1 o2 o3 o4 o5 s0 so
      rw [World.size_alloc] at R4
      generalize v3.alloc (.cells #[.int .i64 o0, .int .i64 o1, .int .i64 o2, .int .i64 o3, .int .i64 o4, .int .i64 o5, .string so] 75) = v4 at *
      have HR := hide R4
      have HW := hide (W3.alloc W3.size (.cells #[.int .i64 x00, .int .i64 x01, .int .i64 x02, .int .i64 x03, .int .i64 x04, .int .i64 x05, .string s0, .int .i64 o0, .int .i64 o1, .int .i64 o2, .int .i64 o3, .int .i64 o4, .int .i64 o5, .string so] 75))
      have HS := hide (HS.out.alloc (.cells #[.int .i64 x00, .int .i64 x01, .int .i64 x02, .int .i64 x03, .int .i64 x04, .int .i64 x05, .string s0, .int .i64 o0, .int .i64 o1, .int .i64 o2, .int .i64 o3, .int .i64 o4, .int .i64 o5, .string so] 75))
      clear R4 W3 q0 q1 q2 q3 q4 q5 q6 r0 r1 r2 r3 r4 r5 r6
      generalize v4.alloc (.cells #[.int .i64 x00, .int .i64 x01, .int .i64 x02, .int .i64 x03, .int .i64 x04, .int .i64 x05, .string s0, .int .i64 o0, .int .i64 o1, .int .i64 o2, .int .i64 o3, .int .i64 o4, .int .i64 o5, .string so] 75) = v5 at *
      generalize v3.heap.size + 1 = g at *
      go_wp2_with fail
      go_loopw [10] (fun i wr => ∃ k : Nat, k ≤ 2 ∧ i = .int .i64 k ∧ Hid (Row2 wr g) ∧ Hid (Below w.heap.size w wr) ∧ Hid (Src wr bs)) (fun i _ => 2 - (intOf i).toNat)
      case atStart => exact ⟨0, Nat.zero_le _, rfl, HR, HW, HS⟩
      case round =>
        clear HR HW HS
        obtain ⟨k, hk, rfl, HR, HW, HS⟩ := hrel
        by_cases hlt : k < 2
        · have hki : (k : Int) < 2 := by omega
          have hk0 : (0 : Int) ≤ (k : Int) := by omega
          obtain ⟨m0, m1, m2, m3, m4, m5, sm, hm⟩ := HR.out.2 k hlt
          have HM := hide hm
          obtain ⟨q0, q1, q2, q3, q4, q5, q6⟩ := hm
          go_wp2_with fail
          refine (menc_any _ _ _ _ _ _ _ _).mono ?_
          rintro e w5 ⟨va, he, howna, hb⟩
          subst he
          obtain ⟨Aa, ca, hva, hca, hma, hqa⟩ := howna.shape
          subst hva
          have W5 := HW.out.trans (hb.mono HW.out.size)
          have R5 := HR.out.below hb
          have S5 := HS.out.below hb HS.out.1
          have M5 : MAt2 w5 g k m0 m1 m2 m3 m4 m5 sm := by
            obtain ⟨h0, h1, h2, h3, h4, h5, h6⟩ := HM.out
            exact ⟨(hb.cell (p := ⟨g, k * 7, none⟩) HR.out.1).trans h0, (hb.cell (p := ⟨g, k * 7 + 1, none⟩) HR.out.1).trans h1, (hb.cell (p := ⟨g, k * 7 + 2, none⟩) HR.out.1).trans h2, (hb.cell (p := ⟨g, k * 7 + 3, none⟩) HR.out.1).trans h3, (hb.cell (p := ⟨g, k * 7 + 4, none⟩) HR.out.1).trans h4, (hb.cell (p := ⟨g, k * 7 + 5, none⟩) HR.out.1).trans h5, (hb.cell (p := ⟨g, k * 7 + 6, none⟩) HR.out.1).trans h6⟩
          clear q0 q1 q2 q3 q4 q5 q6 hb howna HM HR HW HS
          obtain ⟨q0, q1, q2, q3, q4, q5, q6⟩ := M5
          have HS := hide S5
          clear S5
          go_wp2_with fail
          refine (rmenc_any _ _ _ _ _ _ _ _).mono ?_
          rintro e w6 ⟨vb, he, hownb, hb⟩
          subst he
          obtain ⟨Ab, cb, hvb, hcb, hmb, hqb⟩ := hownb.shape
          subst hvb
          have HW6 := hide (W5.trans (hb.mono W5.size))
          have HR6 := hide (R5.below hb)
          have HS6 := hide (HS.out.below hb HS.out.1)
          have hqa6 := hqa.below hb
          clear q0 q1 q2 q3 q4 q5 q6 hb hownb W5 R5 HS hqa
          go_wp2_with (first
            | (go_at_call 47; refine (same_any _ _ _ _ _ _ _ _ _ _ _ hqa6 hqb).mono ?_; rintro e w' ⟨he, rfl⟩; rw [decide_eq_true rfl] at he; subst he))
          go_roundw
          case rel => exact ⟨k + 1, by omega, by go_num, HR6, HW6, HS6⟩
          case measure => simp [intOf]; omega
        · obtain rfl : k = 2 := by omega
          go_wp2_with fail
          refine (bmsg_any bs 7 0 65535 _ HS.out).mono ?_
          rintro e v6 ⟨e2, e3, e4, e5, se, rfl, h2a, h2b, h3a, h3b, h4a, h4b, h5a, h5b, hsz, S6, ho⟩
          have hx1 := into_all (routeOf_bounds 7)
          generalize into (routeOf 7) 0 65535 = e1 at *
          have W6 := HW.out.trans ((ho.mono HW.out.size).below (Nat.le_refl _) (Nat.le_of_lt hbs0))
          have hv : mvE 7 e1 e2 e3 e4 e5 se.size = 0 := mvE_yes (by omega)
          have HV := hide hv
          have HLL := hide (meL_length hv)
          clear ho HS HW HR h2a h2b h3a h3b h4a h4b h5a h5b hsz hx1 hv
          have HS := hide S6
          clear S6
          go_wp2_with fail
          refine (rmenc_any _ _ _ _ _ _ _ _).mono ?_
          rintro e v7 ⟨vc, he, hown, hb⟩
          rw [HV.out] at he
          subst he
          have hbb : bs < v6.heap.size := HS.out.1
          have P : CSt w bs v6.heap.size vc (meL 7 e1 e2 e3 e4 e5 se).length v7 := ⟨HS.out.below hb HS.out.1, W6.trans (hb.mono W6.size), Nat.le_of_lt hbs0, hbb, _, rfl, hown⟩
          have hN1 := HLL.out.1
          have hN2 := HLL.out.2
          generalize (meL 7 e1 e2 e3 e4 e5 se).length = N at *
          obtain ⟨gc, cc, hvc, _, _⟩ := P.head (k := 0) (by omega)
          subst hvc
          have hN40 : (N : Int) ≤ 1099511627776 := by omega
          have hNi1 : (1 : Int) ≤ (N : Int) := by omega
          have hNi2 : (N : Int) ≤ 60 := by omega
          have hN0 : ((N : Int) == 0) = false := by rw [beq_eq_false_iff_ne]; omega
          generalize v6.heap.size = base at *
          clear hown hb HS W6 HV HLL
          go_upto_region 16 with fail
          have P1 := P.drew
          clear P
          go_cut [81] (fun _ wy => ∃ z, wy = z ∧ CSt w bs base (.slice (some ⟨gc, 0, none⟩) N cc) N z)
          case first =>
            go_region_with (first
              | (go_at_call_of 32 (Value.int IntKind.i64 256); refine (bn_any bs 256 _ P2.1 (by decide) (by decide)).mono ?_; rintro e w' ⟨y, hy1, hy2, rfl, hs6, ho6⟩; have hy3 : y ≤ 255 := hb255 hy2; have P3 := P2.oth hs6 ho6; obtain ⟨_, _, hvv, ⟨xb, c1⟩, f1⟩ := P3.head hkN; cases hvv; clear hs6 ho6 hy2)
              | (go_at_call 32; refine (bn_any bs (N : Int) _ P1.1 hNi1 hN40).mono ?_; rintro e w' ⟨j, hj1, hj2, rfl, hs5, ho5⟩; obtain ⟨k, rfl⟩ := Int.eq_ofNat_of_zero_le hj1; have hkN : k < N := lt_of_le_pred hj2; have hkNi : (k : Int) < (N : Int) := Int.ofNat_lt.2 hkN; have P2 := P1.oth hs5 ho5; obtain ⟨_, _, hvv, ⟨xa, c0⟩, f0⟩ := P2.head hkN; cases hvv; clear hs5 ho5 hj2))
            all_goals (go_wp2_with fail; go_meet; exact ⟨_, rfl, P3.set hkN _ (xor_byte _ _).1 (xor_byte _ _).2⟩)
          obtain ⟨z, hz, P4⟩ := hcut
          subst hz
          clear P1
          go_upto_region 17 with fail
          have P1 := P4.drew
          have hr1 := hide (HR1.out.below P1.2.1)
          obtain ⟨L1, hL1, hrc1, hNc, hcm⟩ := P1.reads
          clear P4
          go_cut [17] (fun v wy => ∃ g4 z, v = .slice (some ⟨g4, 0, none⟩) 4 4 ∧ wy = z ∧ Hid (RowS z g4) ∧ Hid (Below w.heap.size w z))
          case first =>
            go_region_law (first
              | (go_simp; go_at_call 32; refine (bn_any bs (N : Int) _ P1.1 hNi1 hN40).mono ?_; rintro e w' ⟨j, hj1, hj2, rfl, hs5, ho5⟩; obtain ⟨k, rfl⟩ := Int.eq_ofNat_of_zero_le hj1; have hkN : k < N := lt_of_le_pred hj2; have hkNi : (k : Int) ≤ (N : Int) := Int.le_of_lt (Int.ofNat_lt.2 hkN); have hkc : (k : Int) ≤ (cc : Int) := Int.le_trans hkNi (Int.ofNat_le.2 hNc); have P2 := P1.oth hs5 ho5; obtain ⟨L2, hL2, hrc2, _, _⟩ := P2.reads; clear hs5 ho5 hj2)
              | (go_simp; go_at_call 32; refine (bn_any bs (N : Int) _ (P1.1.alloc _) hNi1 hN40).mono ?_; rintro e w' ⟨j, hj1, hj2, rfl, hs5, ho5⟩; obtain ⟨k, rfl⟩ := Int.eq_ofNat_of_zero_le hj1; have hkN : k < N := lt_of_le_pred hj2; have hkNi : (k : Int) ≤ (N : Int) := Int.le_of_lt (Int.ofNat_lt.2 hkN); have hkc : (k : Int) ≤ (cc : Int) := Int.le_trans hkNi (Int.ofNat_le.2 hNc); have P2 := (P1.alloc _).oth hs5 ho5; have HLIT := litO P1 hs5 ho5; obtain ⟨L2, hL2, hrc2, _, _⟩ := P2.reads; clear hs5 ho5 hj2)
              | (refine step_app rfl _ _ rfl (OwnB.nil w' w'.heap.size) rfl hrc2 rfl (by rw [hL2]; simp; omega) (Nat.le_refl _) ?_; intro v1 u1 hown1 hg1 hb1 hat1; rw [List.nil_append] at hown1; have P3 := P2.below hb1 (Nat.le_refl _); obtain ⟨L3, hL3, hrc3, _, _⟩ := P3.reads; (try have HLIT := HLIT.below hb1); have PP := P2; clear hg1 hat1)
              | (refine step_app rfl _ _ rfl (OwnB.nil (w'.alloc (.cells #[.int .u8 0] 5)) (w'.alloc (.cells #[.int .u8 0] 5)).heap.size) rfl (hrc2.alloc (Nat.le_refl _) _) rfl (by rw [hL2]; simp; omega) (Nat.le_refl _) ?_; intro v1 u1 hown1 hg1 hb1 hat1; rw [List.nil_append] at hown1; have P3 := (P2.alloc (.cells #[.int .u8 0] 5)).below hb1 (Nat.le_refl _); obtain ⟨L3, hL3, hrc3, _, _⟩ := P3.reads; have HLIT := (reads_lit1 w' 0 0 rfl).below (hb1.mono (by simp)); clear hg1 hat1; have PP := P2.alloc (.cells #[.int .u8 0] 5))
              | (refine step_app rfl _ _ rfl hown1 rfl HLIT rfl (by rw [hL2]; simp; omega) hb1.size ?_; intro v2 u2 hown2 hg2 hb2 hat2; obtain ⟨Aq, cq, hvq, hcq, hmq, hqq⟩ := hown2.shape; subst hvq; have P5 := PP.below (hb1.trans hb2) (Nat.le_refl _); clear hg2 hat2)
              | (refine step_app rfl _ _ rfl (hown1.alloc (.cells #[.int .u8 0] 5)) rfl (reads_lit1 u1 0 0 rfl) rfl (by rw [hL2]; simp; omega) (Nat.le_trans hb1.size (by simp)) ?_; intro v2 u2 hown2 hg2 hb2 hat2; obtain ⟨Aq, cq, hvq, hcq, hmq, hqq⟩ := hown2.shape; subst hvq; have P5 := PP.below ((hb1.alloc hb1.size _).trans hb2) (Nat.le_refl _); clear hg2 hat2))
            all_goals
              go_wp2_with fail
              go_meet
              obtain ⟨L5, hL5, hrc5, _, _⟩ := P5.reads
              have hrk := hrc5.take_ (k := k) (Nat.le_of_lt hkN)
              rw [show (bvs L5).take k = bvs (L5.take k) from by simp [bvs, List.map_take]] at hrk
              have hq5 : Reads u2 u2.heap.size Aq (N + 1) (bvs (L2 ++ [0])) := by rw [List.length_append, hL2] at hqq; exact hqq
              have hc5 : N + 1 ≤ cq := by rw [List.length_append, hL2] at hcq; exact hcq
              exact ⟨_, _, rfl, rfl, hide (RowS.new u2 47 ((HR1.out.below P5.2.1).more P5.2.1.size) HK1.out HM1.out hrc5 hNc hcm hrk (by omega) hcm hq5 hc5 hmq), hide (P5.2.1.alloc P5.2.1.size _)⟩
          obtain ⟨g4, z, rfl, hz, HR, HW⟩ := hcut
          subst hz
          clear P1 hr1 hrc1
          go_wp2_with fail
          go_loopw [18] (fun i wr => ∃ k : Nat, k ≤ 4 ∧ i = .int .i64 k ∧ Hid (RowS wr g4) ∧ Hid (Below w.heap.size w wr)) (fun i _ => 4 - (intOf i).toNat)
          case atStart => exact ⟨0, Nat.zero_le _, rfl, HR, HW⟩
          case round =>
            clear HR HW
            obtain ⟨k, hk, rfl, HR, HW⟩ := hrel
            by_cases hlt : k < 4
            · have hki : (k : Int) < 4 := by omega
              have hk0 : (0 : Int) ≤ (k : Int) := by omega
              obtain ⟨Ak, nk, ck, lk, Bk, q0, hrk, hBk, hnk, hck⟩ := HR.out.2 k hlt
              obtain ⟨d0, d1, d2, d3, d4, d5, sd, hd⟩ := decV_agg lk
              generalize hz : decE lk = zz
              have HV := hide hd
              have HE := hide hz
              have HNK := hide hnk
              have HCK := hide hck
              clear hd hz hnk hck
              go_wp2_with fail
              refine (mdec_any lk _ _ _ _ _ hrk hBk HNK.out HCK.out).mono ?_
              rintro e w5 ⟨he, hb⟩
              rw [HV.out, HE.out] at he
              subst he
              have q5 := (hb.cell (p := ⟨g4, k, none⟩) HR.out.1).trans q0
              have hg5 := Nat.lt_of_lt_of_le HR.out.1 hb.size
              have R5 := HR.out.below hb
              have W5 := HW.out.trans (hb.mono HW.out.size)
              have hr5 := hrk.below (hb.mono hBk)
              have hB5 := Nat.le_trans hBk hb.size
              have ba := (Below.refl w5.heap.size w5).alloc (Nat.le_refl _) (.cells #[.int .i64 d0, .int .i64 d1, .int .i64 d2, .int .i64 d3, .int .i64 d4, .int .i64 d5, .string sd] 75)
              have q6 := (ba.cell (p := ⟨g4, k, none⟩) hg5).trans q5
              have hg6 := Nat.lt_of_lt_of_le hg5 ba.size
              have R6 := R5.below ba
              have W6 := W5.trans (ba.mono W5.size)
              have hr6 := hr5.below (ba.mono hB5)
              have hB6 := Nat.le_trans hB5 ba.size
              have Bn := Box7.new w5 d0 d1 d2 d3 d4 d5 sd 75
              clear q0 q5 hg5 R5 W5 hr5 hB5 ba hb hrk hBk HR HW
              go_wp2_with fail
              generalize w5.heap.size = g5 at *
              generalize w5.alloc (.cells #[.int .i64 d0, .int .i64 d1, .int .i64 d2, .int .i64 d3, .int .i64 d4, .int .i64 d5, .string sd] 75) = w6 at *
              refine (rmdec_any lk _ _ _ _ _ hr6 hB6 HNK.out HCK.out).mono ?_
              rintro e w7 ⟨he, hb⟩
              rw [HV.out, HE.out] at he
              subst he
              have R7 := R6.below hb
              have W7 := W6.trans (hb.mono W6.size)
              have B7 := Bn.below hb Bn.1
              have ba := (Below.refl w7.heap.size w7).alloc (Nat.le_refl _) (.cells #[.int .i64 d0, .int .i64 d1, .int .i64 d2, .int .i64 d3, .int .i64 d4, .int .i64 d5, .string sd] 75)
              have HR8 := hide (R7.below ba)
              have HW8 := hide (W7.trans (ba.mono W7.size))
              have B8 := B7.below ba B7.1
              have Bm := Box7.new w7 d0 d1 d2 d3 d4 d5 sd 75
              clear q6 hg6 R6 W6 hr6 hB6 hb R7 W7 B7 ba Bn
              obtain ⟨_, r0, r1, r2, r3, r4, r5, r6⟩ := B8
              obtain ⟨_, t0, t1, t2, t3, t4, t5, t6⟩ := Bm
              go_wp2_with fail
              go_roundw
              case rel => exact ⟨k + 1, by omega, by go_num, HR8, HW8⟩
              case measure => simp [intOf]; omega
            · obtain rfl : k = 4 := by omega
              go_wp2_with (first
                | (go_at_call 71; refine (mawake_any _).mono ?_; rintro e w' ⟨rfl, hb⟩))
              go_ret
              exact ⟨rfl, HW.out.trans (hb.mono HW.out.size)⟩
end Go.Proofs.Ytaoiekcoiooghaa
