/- The contract of the builders' Message: a message within the limits of its number and span. Conditions: the reader of numbers. -/
import Derived.Test.YtaoiekcoiooghaaBs2
import Derived.Test.YtaoiekcoiooghaaMsg
import Derived.Deep.RegionWith
import Derived.BigRegion
namespace Go.Proofs.Ytaoiekcoiooghaa
open Go.RowKit
theorem Box7.oth {W W' : World} {B b c : Nat} {x0 x1 x2 x3 x4 x5 : Int} {s : ByteArray} (h : Box7 W b x0 x1 x2 x3 x4 x5 s) (ho : Oth B c W W') (hB : b < B) (hn : b ≠ c) : Box7 W' b x0 x1 x2 x3 x4 x5 s := h.keep ho.size fun j => ho.cell (p := ⟨b, j, none⟩) hB hn
theorem Free.oth {W W' : World} {B b c : Nat} (h : Free W b) (ho : Oth B c W W') (hB : b < B) (hn : b ≠ c) : Free W' b := fun j => (ho.frozen (p := ⟨b, j, none⟩) hB hn).trans (h j)
/-- While a message is built: the reader, the result's variable (still empty), the message's variable. -/
def MSt (w : World) (b M : Nat) (x0 x1 x2 x3 x4 x5 : Int) (s : ByteArray) (W : World) : Prop :=
  Src W b ∧ Box7 W w.heap.size 0 0 0 0 0 0 ⟨#[]⟩ ∧ Free W w.heap.size ∧ Box7 W M x0 x1 x2 x3 x4 x5 s ∧ Free W M ∧ Oth w.heap.size b w W ∧ b < w.heap.size ∧ w.heap.size < M
section
variable {w W W' : World} {b M : Nat} {x0 x1 x2 x3 x4 x5 : Int} {s : ByteArray}
theorem MSt.drew (h : MSt w b M x0 x1 x2 x3 x4 x5 s W) : MSt w b M x0 x1 x2 x3 x4 x5 s W.drew := ⟨h.1, h.2.1, h.2.2.1, h.2.2.2.1, h.2.2.2.2.1, h.2.2.2.2.2.1.drew, h.2.2.2.2.2.2⟩
theorem MSt.oth (h : MSt w b M x0 x1 x2 x3 x4 x5 s W) (hs : Src W' b) (ho : Oth W.heap.size b W W') : MSt w b M x0 x1 x2 x3 x4 x5 s W' := by
  obtain ⟨h1, h2, h3, h4, h5, h6, h7, h8⟩ := h
  exact ⟨hs, h2.oth ho h2.1 (by omega), h3.oth ho h2.1 (by omega), h4.oth ho h4.1 (by omega), h5.oth ho h4.1 (by omega), h6.trans (ho.mono h6.size), h7, h8⟩
theorem MSt.alloc (h : MSt w b M x0 x1 x2 x3 x4 x5 s W) (o : Obj) : MSt w b M x0 x1 x2 x3 x4 x5 s (W.alloc o) := by
  obtain ⟨h1, h2, h3, h4, h5, h6, h7, h8⟩ := h
  exact ⟨h1.alloc o, h2.alloc o, h3.alloc h2.1 o, h4.alloc o, h5.alloc h4.1 o, h6.alloc h6.size o, h7, h8⟩
theorem MSt.set0 (h : MSt w b M x0 x1 x2 x3 x4 x5 s W) (v : Int) : MSt w b M v x1 x2 x3 x4 x5 s (W.setCell ⟨M, 0, none⟩ (.int .i64 v)) := by
  obtain ⟨h1, h2, h3, h4, h5, h6, h7, h8⟩ := h
  exact ⟨h1.set (by simp; omega) _, h2.far (by simp; omega) _, h3.set _ _, h4.set0 v, h5.set _ _, h6.setCell (by simp; omega) _, h7, h8⟩
theorem MSt.set1 (h : MSt w b M x0 x1 x2 x3 x4 x5 s W) (v : Int) : MSt w b M x0 v x2 x3 x4 x5 s (W.setCell ⟨M, 1, none⟩ (.int .i64 v)) := by
  obtain ⟨h1, h2, h3, h4, h5, h6, h7, h8⟩ := h
  exact ⟨h1.set (by simp; omega) _, h2.far (by simp; omega) _, h3.set _ _, h4.set1 v, h5.set _ _, h6.setCell (by simp; omega) _, h7, h8⟩
theorem MSt.set2 (h : MSt w b M x0 x1 x2 x3 x4 x5 s W) (v : Int) : MSt w b M x0 x1 v x3 x4 x5 s (W.setCell ⟨M, 2, none⟩ (.int .i64 v)) := by
  obtain ⟨h1, h2, h3, h4, h5, h6, h7, h8⟩ := h
  exact ⟨h1.set (by simp; omega) _, h2.far (by simp; omega) _, h3.set _ _, h4.set2 v, h5.set _ _, h6.setCell (by simp; omega) _, h7, h8⟩
theorem MSt.set3 (h : MSt w b M x0 x1 x2 x3 x4 x5 s W) (v : Int) : MSt w b M x0 x1 x2 v x4 x5 s (W.setCell ⟨M, 3, none⟩ (.int .i64 v)) := by
  obtain ⟨h1, h2, h3, h4, h5, h6, h7, h8⟩ := h
  exact ⟨h1.set (by simp; omega) _, h2.far (by simp; omega) _, h3.set _ _, h4.set3 v, h5.set _ _, h6.setCell (by simp; omega) _, h7, h8⟩
theorem MSt.set4 (h : MSt w b M x0 x1 x2 x3 x4 x5 s W) (v : Int) : MSt w b M x0 x1 x2 x3 v x5 s (W.setCell ⟨M, 4, none⟩ (.int .i64 v)) := by
  obtain ⟨h1, h2, h3, h4, h5, h6, h7, h8⟩ := h
  exact ⟨h1.set (by simp; omega) _, h2.far (by simp; omega) _, h3.set _ _, h4.set4 v, h5.set _ _, h6.setCell (by simp; omega) _, h7, h8⟩
theorem MSt.set5 (h : MSt w b M x0 x1 x2 x3 x4 x5 s W) (v : Int) : MSt w b M x0 x1 x2 x3 x4 v s (W.setCell ⟨M, 5, none⟩ (.int .i64 v)) := by
  obtain ⟨h1, h2, h3, h4, h5, h6, h7, h8⟩ := h
  exact ⟨h1.set (by simp; omega) _, h2.far (by simp; omega) _, h3.set _ _, h4.set5 v, h5.set _ _, h6.setCell (by simp; omega) _, h7, h8⟩
theorem MSt.set6 (h : MSt w b M x0 x1 x2 x3 x4 x5 s W) (v : ByteArray) : MSt w b M x0 x1 x2 x3 x4 x5 v (W.setCell ⟨M, 6, none⟩ (.string v)) := by
  obtain ⟨h1, h2, h3, h4, h5, h6, h7, h8⟩ := h
  exact ⟨h1.set (by simp; omega) _, h2.far (by simp; omega) _, h3.set _ _, h4.set6 v, h5.set _ _, h6.setCell (by simp; omega) _, h7, h8⟩
end
theorem src7 {W : World} {b B : Nat} (h : Src W b) (hb : b < B) (y0 y1 y2 y3 y4 y5 y6 : Value) : Src (((((((W.setCell ⟨B, 0, none⟩ y0).setCell ⟨B, 1, none⟩ y1).setCell ⟨B, 2, none⟩ y2).setCell ⟨B, 3, none⟩ y3).setCell ⟨B, 4, none⟩ y4).setCell ⟨B, 5, none⟩ y5).setCell ⟨B, 6, none⟩ y6) b :=
  ((((((h.set hb _).set hb _).set hb _).set hb _).set hb _).set hb _).set hb _
theorem oth7 {w W : World} {b B C : Nat} (h : Oth C b w W) (hb : C ≤ B) (y0 y1 y2 y3 y4 y5 y6 : Value) : Oth C b w (((((((W.setCell ⟨B, 0, none⟩ y0).setCell ⟨B, 1, none⟩ y1).setCell ⟨B, 2, none⟩ y2).setCell ⟨B, 3, none⟩ y3).setCell ⟨B, 4, none⟩ y4).setCell ⟨B, 5, none⟩ y5).setCell ⟨B, 6, none⟩ y6) :=
  ((((((h.setCell (.inr hb) _).setCell (.inr hb) _).setCell (.inr hb) _).setCell (.inr hb) _).setCell (.inr hb) _).setCell (.inr hb) _).setCell (.inr hb) _
/-- What Message returns. -/
def RetM (b : Nat) (iD lo hi : Int) (w : World) (e : Ending) (w' : World) : Prop := ∃ (x2 x3 x4 x5 : Int) (s : ByteArray), e = .returned (.agg #[.int .i64 iD, .int .i64 (into (routeOf iD) lo hi), .int .i64 x2, .int .i64 x3, .int .i64 x4, .int .i64 x5, .string s]) ∧
  0 ≤ x2 ∧ x2 ≤ 2 ∧ 0 ≤ x3 ∧ x3 ≤ 3 ∧ x3 ≤ x4 ∧ x4 ≤ 65536 ∧ 0 ≤ x5 ∧ x5 ≤ 49 ∧ s.size ≤ 3 ∧ Src w' b ∧ Oth w.heap.size b w w'
set_option maxHeartbeats 8000000 in
set_option maxRecDepth 20000 in
theorem bmsg_any (b : Nat) (iD lo hi : Int) (w : World) (hs : Src w b) : Calls Try.prog 80 #[.pointer (some ⟨b, 0, none⟩), .int .i64 iD, .int .i64 lo, .int .i64 hi] w (RetM b iD lo hi w) := by
  have hbw := hs.1
  have S0 := hs.alloc (.cells #[.int .i64 0, .int .i64 0, .int .i64 0, .int .i64 0, .int .i64 0, .int .i64 0, .string ⟨#[]⟩] 75)
  have O0 := (Oth.refl w.heap.size b w).alloc (Nat.le_refl _) (.cells #[.int .i64 0, .int .i64 0, .int .i64 0, .int .i64 0, .int .i64 0, .int .i64 0, .string ⟨#[]⟩] 75)
  have X0 := Box7.new w 0 0 0 0 0 0 ⟨#[]⟩ 75
  have F0 := Free.new w #[.int .i64 0, .int .i64 0, .int .i64 0, .int .i64 0, .int .i64 0, .int .i64 0, .string ⟨#[]⟩] 75
  clear hs
  go_enter Try.func80, Try.ntmps80
  go_wp2_with fail
  refine (refroute_any _ _).mono ?_
  rintro e w1 ⟨rfl, hb1⟩
  have S1 := S0.below hb1 S0.1
  have O1 := O0.trans ((oth_of hb1 b).mono O0.size)
  have X1 := X0.below hb1 X0.1
  have F1 := F0.below hb1 X0.1
  clear hb1 S0 O0 X0 F0
  go_wp2_with fail
  refine (refinto_any _ _ _ _).mono ?_
  rintro e w' ⟨rfl, rfl⟩
  have HS := hide S1
  clear S1
  go_wp2_with fail
  refine (bn_any b 3 _ HS.out (by decide) (by decide)).mono ?_
  rintro e w2 ⟨x2, hx2a, hx2b, rfl, S2, ho⟩
  have O2 := O1.trans (ho.mono O1.size)
  have X2 := X1.oth ho X1.1 (by omega)
  have F2 := F1.oth ho X1.1 (by omega)
  clear ho O1 X1 F1 HS
  have HS := hide S2
  clear S2
  go_wp2_with fail
  refine (bn_any b 4 _ HS.out (by decide) (by decide)).mono ?_
  rintro e w3 ⟨x3, hx3a, hx3b, rfl, S3, ho⟩
  have O3 := O2.trans (ho.mono O2.size)
  have X3 := X2.oth ho X2.1 (by omega)
  have F3 := F2.oth ho X2.1 (by omega)
  clear ho O2 X2 F2 HS
  have HS := hide S3
  clear S3
  go_wp2_with fail
  refine (bn_any b 50 _ HS.out (by decide) (by decide)).mono ?_
  rintro e w4 ⟨x5, hx5a, hx5b, rfl, S4, ho⟩
  have O4 := O3.trans (ho.mono O3.size)
  have X4 := X3.oth ho X3.1 (by omega)
  have F4 := F3.oth ho X3.1 (by omega)
  clear ho O3 X3 F3 HS
  have HS := hide S4
  clear S4
  go_wp2_with fail
  refine (bbody_any b _ HS.out).mono ?_
  rintro e w5 ⟨s, hsz, rfl, S5, ho⟩
  have O5 := O4.trans (ho.mono O4.size)
  have X5 := X4.oth ho X4.1 (by omega)
  have F5 := F4.oth ho X4.1 (by omega)
  clear ho O4 X4 F4 HS
  have P : MSt w b w5.heap.size iD (into (routeOf iD) lo hi) x2 x3 0 x5 s (w5.alloc (.cells #[.int .i64 iD, .int .i64 (into (routeOf iD) lo hi), .int .i64 x2, .int .i64 x3, .int .i64 0, .int .i64 x5, .string s] 75)) :=
    ⟨S5.alloc _, X5.alloc _, F5.alloc X5.1 _, Box7.new _ _ _ _ _ _ _ _ 75, Free.new _ _ 75, O5.alloc O5.size _, hbw, X5.1⟩
  clear S5 O5 X5 F5
  go_upto_region 2 with fail
  generalize w5.heap.size = M at *
  generalize w5.alloc (.cells #[.int .i64 iD, .int .i64 (into (routeOf iD) lo hi), .int .i64 x2, .int .i64 x3, .int .i64 0, .int .i64 x5, .string s] 75) = v1 at *
  have P1 := P.drew
  obtain ⟨_, _, _, XM, FM, _, _, _⟩ := id P1
  obtain ⟨_, q0, q1, q2, q3, q4, q5, q6⟩ := id XM
  have f4 := FM 4
  have s2x : ∀ y : Int, 0 ≤ y → y ≤ 2 → IntKind.i64.wrap (x3 + y) = x3 + y := fun y h1 h2 => IntWalk.i64_in _ (by omega)
  have S2X := hide s2x
  clear s2x P XM FM
  go_cut [25] (fun _ wy => ∃ z x4, wy = z ∧ x3 ≤ x4 ∧ x4 ≤ 65536 ∧ MSt w b M iD (into (routeOf iD) lo hi) x2 x3 x4 x5 s z)
  case first =>
    go_region_with (go_at_call 32; refine (bn_any b 3 _ P1.1 (by decide) (by decide)).mono ?_; rintro e w' ⟨y, hy1, hy2, rfl, hs5, ho5⟩; have sw := S2X.out y hy1 hy2; have P2 := P1.oth hs5 ho5; obtain ⟨_, _, _, XM2, FM2, _, _, _⟩ := id P2; obtain ⟨_, r0, r1, r2, r3, r4, r5, r6⟩ := id XM2; have g4 := FM2 4; clear hs5 ho5 XM2 FM2)
    all_goals (go_wp2_with fail; go_meet; exact ⟨_, _, rfl, by omega, by omega, P2.set4 (x3 + y)⟩)
  obtain ⟨z, x4, hz, h4a, h4b, P3⟩ := hcut
  subst hz
  clear P1 q0 q1 q2 q3 q4 q5 q6 f4 S2X
  go_wp2_with fail
  refine (bn_any b 20 _ P3.1 (by decide) (by decide)).mono ?_
  rintro e w9 ⟨y, hy1, hy2, rfl, S9, ho⟩
  have P4 := P3.oth S9 ho
  clear S9 ho P3
  by_cases hy : y = 19
  · have hyb : (y == 19) = true := by rw [beq_iff_eq]; exact hy
    obtain ⟨_, _, _, XM, FM, _, _, _⟩ := id P4
    obtain ⟨_, q0, q1, q2, q3, q4, q5, q6⟩ := XM
    have f4 := FM 4
    have P5 := P4.set4 65536
    clear FM hy
    go_upto_region 5 with fail
    generalize w9.setCell ⟨M, 4, none⟩ (.int .i64 65536) = w10 at *
    clear q0 q1 q2 q3 q4 q5 q6 f4 P4
    obtain ⟨HS, XR, FR, XM, FM, HO, _, _⟩ := P5
    obtain ⟨_, p0, p1, p2, p3, p4, p5, p6⟩ := XR
    obtain ⟨_, q0, q1, q2, q3, q4, q5, q6⟩ := XM
    have f0 := FR 0
    have f1 := FR 1
    have f2 := FR 2
    have f3 := FR 3
    have f4 := FR 4
    have f5 := FR 5
    have f6 := FR 6
    have HSS := hide HS
    clear FR FM HS
    go_wp2_with fail
    refine bodyPost_ret (v := .agg #[.int .i64 iD, .int .i64 (into (routeOf iD) lo hi), .int .i64 x2, .int .i64 x3, .int .i64 65536, .int .i64 x5, .string s]) (by simp [results, Try.results80, go_sem, p0, p1, p2, p3, p4, p5, p6]) rfl ⟨x2, x3, 65536, x5, s, rfl, hx2a, by omega, hx3a, by omega, by omega, by omega, hx5a, by omega, hsz, ?_, ?_⟩
    · exact src7 HSS.out hbw _ _ _ _ _ _ _
    · exact oth7 HO (Nat.le_refl _) _ _ _ _ _ _ _
  · have hyb : (y == 19) = false := by rw [beq_eq_false_iff_ne]; exact hy
    clear hy
    obtain ⟨HS, XR, FR, XM, FM, HO, _, _⟩ := P4
    obtain ⟨_, p0, p1, p2, p3, p4, p5, p6⟩ := XR
    obtain ⟨_, q0, q1, q2, q3, q4, q5, q6⟩ := XM
    have f0 := FR 0
    have f1 := FR 1
    have f2 := FR 2
    have f3 := FR 3
    have f4 := FR 4
    have f5 := FR 5
    have f6 := FR 6
    have HSS := hide HS
    clear FR FM HS
    go_wp2_with fail
    refine bodyPost_ret (v := .agg #[.int .i64 iD, .int .i64 (into (routeOf iD) lo hi), .int .i64 x2, .int .i64 x3, .int .i64 x4, .int .i64 x5, .string s]) (by simp [results, Try.results80, go_sem, p0, p1, p2, p3, p4, p5, p6]) rfl ⟨x2, x3, x4, x5, s, rfl, hx2a, by omega, hx3a, by omega, by omega, by omega, hx5a, by omega, hsz, ?_, ?_⟩
    · exact src7 HSS.out hbw _ _ _ _ _ _ _
    · exact oth7 HO (Nat.le_refl _) _ _ _ _ _ _ _
end Go.Proofs.Ytaoiekcoiooghaa
