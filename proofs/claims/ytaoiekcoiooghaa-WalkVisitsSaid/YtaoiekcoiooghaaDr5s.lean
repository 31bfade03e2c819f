/- The directory reference's Apply. No condition. -/
import Derived.Test.YtaoiekcoiooghaaDq1
namespace Go.Proofs.Ytaoiekcoiooghaa
open Go.RowKit
set_option maxHeartbeats 16000000 in
set_option maxRecDepth 20000 in
theorem dapply_split (L : List Sp) (F : List Int) (hG : GoodD L F) (m n : Nat) (hm : L.length = m) (hn : F.length = n) (hm1 : m ≤ 50) (g c f cf : Nat) (hmc : m ≤ c) (_hcm : c ≤ maxLen) (v : Int) (hv : 1 ≤ v ∧ v ≤ 500) (fr tt md : Int) (hfr : 0 ≤ fr ∧ fr < (n : Int)) (htt : 0 ≤ tt ∧ tt < (n : Int)) (hmd : 0 ≤ md ∧ md ≤ 65534) (w : World) (hr : RowP L g w) (hf : RowN F f w) :
    Calls Try.prog 94 #[.agg #[.int .i64 v, .slice (some ⟨g, 0, none⟩) m c, .slice (some ⟨f, 0, none⟩) n cf], .agg #[.int .i64 1, .int .i64 fr, .int .i64 tt, .int .i64 md]] w (RetA n m v w) := by
  have HM := hide hm
  have HN := hide hn
  have HG := hide hG
  have hgw := hr.1
  have hfw := hf.1
  obtain ⟨hv1, hv2⟩ := hv
  obtain ⟨hf1, hf2⟩ := hfr
  obtain ⟨ht1, ht2⟩ := htt
  obtain ⟨hd1, hd2⟩ := hmd
  have hvb : (v == 1099511627776) = false := by rw [beq_eq_false_iff_ne]; omega
  have hn16 : (1 : Int) ≤ (n : Int) ∧ (n : Int) ≤ 6 := by have h1 := hG.2.2.2.1; have h2 := hG.2.2.2.2.1; omega
  obtain ⟨hn1, hn6⟩ := hn16
  have hm100 : m ≤ 100 := by omega
  have A0 : ASt w v g m c f n cf 1 fr tt md L F (((w.alloc (.cells #[.int .i64 v, .slice (some ⟨g, 0, none⟩) m c, .slice (some ⟨f, 0, none⟩) n cf] 40)).alloc (.cells #[.int .i64 1, .int .i64 fr, .int .i64 tt, .int .i64 md] 109)).alloc (.cells #[.int .i64 0, .slice none 0 0, .slice none 0 0] 40)) := by
    have b1 := (Below.refl w.heap.size w).alloc (Nat.le_refl _) (.cells #[.int .i64 v, .slice (some ⟨g, 0, none⟩) m c, .slice (some ⟨f, 0, none⟩) n cf] 40)
    have X1 := Box3.new w (.int .i64 v) (.slice (some ⟨g, 0, none⟩) m c) (.slice (some ⟨f, 0, none⟩) n cf) 40
    have r1 := hr.below b1 hr.1
    have q1 := hf.below b1 hf.1
    generalize e1 : w.alloc (.cells #[.int .i64 v, .slice (some ⟨g, 0, none⟩) m c, .slice (some ⟨f, 0, none⟩) n cf] 40) = W1 at *
    have s1 : W1.heap.size = w.heap.size + 1 := by rw [← e1, World.size_alloc]
    have b2 := (Below.refl W1.heap.size W1).alloc (Nat.le_refl _) (.cells #[.int .i64 1, .int .i64 fr, .int .i64 tt, .int .i64 md] 109)
    have X2 := Box4.new W1 (.int .i64 1) (.int .i64 fr) (.int .i64 tt) (.int .i64 md) 109
    have X1 := X1.below b2 X1.1
    have r2 := r1.below b2 r1.1
    have q2 := q1.below b2 q1.1
    have b12 := b1.trans (b2.mono b1.size)
    generalize e2 : W1.alloc (.cells #[.int .i64 1, .int .i64 fr, .int .i64 tt, .int .i64 md] 109) = W2 at *
    have s2 : W2.heap.size = w.heap.size + 2 := by rw [← e2, World.size_alloc, s1]
    have b3 := (Below.refl W2.heap.size W2).alloc (Nat.le_refl _) (.cells #[.int .i64 0, .slice none 0 0, .slice none 0 0] 40)
    have X3 := Box3.new W2 (.int .i64 0) (.slice none 0 0) (.slice none 0 0) 40
    have F3 := Free.new W2 #[.int .i64 0, .slice none 0 0, .slice none 0 0] 40
    rw [s1] at X2
    rw [s2] at X3 F3
    exact ⟨X1.below b3 X1.1, X2.below b3 X2.1, X3, F3, r2.below b3 r2.1, q2.below b3 q2.1, b12.trans (b3.mono b12.size)⟩
  go_enter Try.func94, Try.ntmps94
  go_upto_region 1 with fail
  generalize ((w.alloc (.cells #[.int .i64 v, .slice (some ⟨g, 0, none⟩) m c, .slice (some ⟨f, 0, none⟩) n cf] 40)).alloc (.cells #[.int .i64 1, .int .i64 fr, .int .i64 tt, .int .i64 md] 109)).alloc (.cells #[.int .i64 0, .slice none 0 0, .slice none 0 0] 40) = w1 at *
  obtain ⟨_, q0, q1, q2⟩ := id A0.1
  have HA := hide A0
  clear A0 hr hf hG hm hn
  go_wp2_with fail
  refine (dval_any L F HG.out m n HM.out HN.out hm100 g c f cf v ⟨hv1, by omega⟩ _ HA.out.2.2.2.2.1 HA.out.2.2.2.2.2.1).mono ?_
  rintro e w2 ⟨z, rfl, hb⟩
  have A2 := HA.out.next hb
  clear q0 q1 q2 hb HA
  by_cases hz : z = 0
  · subst hz
    obtain ⟨_, q0, q1, q2⟩ := id A2.1
    obtain ⟨_, e0, e1, e2, e3⟩ := id A2.2.1
    have HA := hide A2
    clear A2
    go_wp2_with fail
    have K0 := HA.out.drew
    go_region_held3 (fun w' => w'.cell? ⟨w.heap.size, 0, none⟩ = some (.int .i64 v) ∧ w'.cell? ⟨w.heap.size, 1, none⟩ = some (.slice (some ⟨g, 0, none⟩) m c) ∧ w'.cell? ⟨w.heap.size, 2, none⟩ = some (.slice (some ⟨f, 0, none⟩) n cf) ∧ w'.cell? ⟨w.heap.size + 1, 1, none⟩ = some (.int .i64 fr) ∧ w'.cell? ⟨w.heap.size + 1, 2, none⟩ = some (.int .i64 tt) ∧ ASt w v g m c f n cf 1 fr tt md L F w')
      (first | exact SA K0 | exact SA ((AS (by assumption)).next (by assumption)) | assumption)
      (first
        | (go_at_call_of 104 (Value.int IntKind.i64 fr); refine (didx_A _ _ _ (by assumption) HM hm100).mono ?_; rintro e w' ⟨r1, hr1, rfl, hb⟩)
        | (go_at_call 104; refine (didx_A _ _ _ (by assumption) HM hm100).mono ?_; rintro e w' ⟨r2, hr2, rfl, hb⟩))
    rename_i hS
    have A3 := AS hS
    clear hS K0 q0 q1 q2 e0 e1 e2 e3 HA
    go_upto_region 12 with fail
    have K0 := A3.drew
    have K1 := (A3.alloc (.cells #[.int .i64 0, .slice none 0 0, .slice none 0 0] 40)).drew
    have XN : Box3 (w'.alloc (.cells #[.int .i64 0, .slice none 0 0, .slice none 0 0] 40)).drew w'.heap.size (.int .i64 0) (.slice none 0 0) (.slice none 0 0) := Box3.new w' _ _ _ 40
    have FN : Free (w'.alloc (.cells #[.int .i64 0, .slice none 0 0, .slice none 0 0] 40)).drew w'.heap.size := Free.new w' _ 40
    have hlenF : ([] : List Int).length + F.length ≤ 1000000 := by rw [HN.out]; simp; omega
    have hFn : F.length = n := HN.out
    have hF0 : 0 < ([] ++ F).length := by simp; omega
    have sv : IntKind.i64.wrap (v + 1) = v + 1 := IntWalk.i64_in _ (by omega)
    go_cut [10] (fun v10 wy => ∃ X f' cf' z, v10 = .pointer (some ⟨X, 0, none⟩) ∧ wy = z ∧ Hid (XSt w v g m c f n cf 1 fr tt md L F X (.slice none 0 0) f' cf' F z))
    case first =>
      go_region_held3 (fun w' => w'.cell? ⟨w.heap.size, 0, none⟩ = some (.int .i64 v) ∧ w'.cell? ⟨w.heap.size, 1, none⟩ = some (.slice (some ⟨g, 0, none⟩) m c) ∧ w'.cell? ⟨w.heap.size, 2, none⟩ = some (.slice (some ⟨f, 0, none⟩) n cf) ∧ w'.cell? ⟨w.heap.size + 1, 1, none⟩ = some (.int .i64 fr) ∧ w'.cell? ⟨w.heap.size + 1, 2, none⟩ = some (.int .i64 tt) ∧ ASt w v g m c f n cf 1 fr tt md L F w')
        (first | exact SA K0 | exact SA (K0.alloc _) | exact SA (K0.alloc _).drew | exact SA (KE.alloc _) | exact SA (KE.set3 A3.big hgw hfw _ _ _) | exact SA ((AS (by assumption)).next (by assumption)) | exact SA ((AS (by assumption)).alloc _) | exact SA ((AS (by assumption)).set3 (by simp; omega) hgw hfw _ _ _) | assumption)
        (first
          | (refine step_appN rfl _ _ rfl (OwnN.nil w'.drew w'.drew.heap.size) rfl (K0.rowN.readsN hFn) rfl hlenF (Nat.le_refl _) ?_; intro v' w' hown' hb'; obtain ⟨f', cf', hv', hfc', hfm', hfb', hrow', hfree'⟩ := hown'.head hF0; subst hv'; have KE := K0.next hb')
          | (refine step_appN rfl _ _ rfl (OwnN.nil (w'.alloc (.cells #[.int .i64 0, .slice none 0 0, .slice none 0 0] 40)).drew (w'.alloc (.cells #[.int .i64 0, .slice none 0 0, .slice none 0 0] 40)).drew.heap.size) rfl (K1.rowN.readsN hFn) rfl hlenF (Nat.le_refl _) ?_; intro v' w' hown' hb'; obtain ⟨f', cf', hv', hfc', hfm', hfb', hrow', hfree'⟩ := hown'.head hF0; subst hv'; have KE := K1.next hb'; have XB2 := XN.below hb' XN.1; have FB2 := FN.below hb' XN.1; obtain ⟨_, xb0, xb1, xb2⟩ := id XB2; have fb0 := FB2 0; have fb1 := FB2 1; have fb2 := FB2 2))
      all_goals
        have hc5 : n ≤ cf' := by have h := hfc'; simp only [List.nil_append, hFn] at h; exact h
        have hr5 : RowN F f' w' := hrow'
        go_wp2_with fail
        go_meet
        first
          | exact ⟨_, f', cf', _, rfl, rfl, hide (XSt.mkA KE hr5 hfree' (Nat.le_trans A3.big hfb') hc5 hfm')⟩
          | exact ⟨_, f', cf', _, rfl, rfl, hide (XSt.mk_ KE XB2 FB2 hr5 hfree' A3.big (Nat.le_trans A3.big (Nat.le_trans (size_le_alloc _ _) hfb')) (fun e => Nat.lt_irrefl _ (Nat.lt_of_lt_of_le XN.1 (e ▸ hfb'))) hc5 hfm' hgw hfw)⟩
    obtain ⟨X, f', cf', z, rfl, hz, HX⟩ := hcut
    subst hz
    clear K0 K1 XN FN A3
    obtain ⟨_, d0, d1, d2⟩ := id HX.out.1.1
    obtain ⟨_, e0, e1, e2, e3⟩ := id HX.out.1.2.1
    by_cases c1 : r1 < 0
    · clear hr1 hr2
      obtain ⟨hq1, p0, p1, p2⟩ := id HX.out.1.2.2.1
      have f0 := HX.out.1.2.2.2.1 0
      have f1 := HX.out.1.2.2.2.1 1
      have f2 := HX.out.1.2.2.2.1 2
      have hB : Below w.heap.size w _ := HX.out.1.2.2.2.2.2.2
      go_wp2_with (refine bodyPost_ret (v := .tuple #[.agg #[.int .i64 0, .slice none 0 0, .slice none 0 0], .int .i64 7]) (by simp [results, Try.results94, go_sem, p0, p1, p2]) rfl (err_apply hB (by decide) _ _ _))
    · by_cases c2 : 0 ≤ r2
      · clear hr1 hr2
        obtain ⟨hq1, p0, p1, p2⟩ := id HX.out.1.2.2.1
        have f0 := HX.out.1.2.2.2.1 0
        have f1 := HX.out.1.2.2.2.1 1
        have f2 := HX.out.1.2.2.2.1 2
        have hB : Below w.heap.size w _ := HX.out.1.2.2.2.2.2.2
        go_wp2_with (refine bodyPost_ret (v := .tuple #[.agg #[.int .i64 0, .slice none 0 0, .slice none 0 0], .int .i64 7]) (by simp [results, Try.results94, go_sem, p0, p1, p2]) rfl (err_apply hB (by decide) _ _ _))
      · rcases hr1 with ⟨hr1, _⟩ | ⟨i, rfl, x, hx, hxs⟩
        · omega
        obtain ⟨rfl, hno⟩ : r2 = -1 ∧ ∀ x ∈ L, x.sh ≠ tt := by
          rcases hr2 with h | ⟨_, rfl, _⟩
          · exact h
          · omega
        have hil : i < m := by have := (List.getElem?_eq_some_iff.1 hx).1; rw [HM.out] at this; exact this
        have hii : (i : Int) < (m : Int) := by omega
        have hi0 : (0 : Int) ≤ (i : Int) := by omega
        have hmem := chain_mem HG.out.1 x (List.mem_of_getElem? hx)
        obtain ⟨x1, x2, x3⟩ := hmem
        obtain ⟨s0, s1, s2⟩ := HX.out.1.2.2.2.2.1.2 i x hx
        have HXS := hide hxs
        have HNO := hide hno
        have HXI := hide hx
        clear hxs hno hx c1 c2
        go_upto_region 17 with fail
        rename_i K23 h23 hx0 K19 h19 K17 h17
        clear h23
        have YS := Box3.new wc (.int .i64 x.lo) (.int .i64 x.hi) (.int .i64 x.sh) 44
        have HX2 := hide (HX.out.alloc (.cells #[.int .i64 x.lo, .int .i64 x.hi, .int .i64 x.sh] 44))
        have hSbig : w.heap.size + 3 ≤ wc.heap.size := HX.out.1.big
        have hXS : X < wc.heap.size := HX.out.2.1.1
        clear s0 s1 s2 d0 d1 d2 e0 e1 e2 e3 HX
        generalize wc.heap.size = S at *
        generalize wc.alloc (.cells #[.int .i64 x.lo, .int .i64 x.hi, .int .i64 x.sh] 44) = w5 at *
        obtain ⟨_, s0, s1, s2⟩ := id YS
        obtain ⟨_, d0, d1, d2⟩ := id HX2.out.1.1
        obtain ⟨_, e0, e1, e2, e3⟩ := id HX2.out.1.2.1
        by_cases c3 : md < x.lo
        · obtain ⟨hq1, p0, p1, p2⟩ := id HX2.out.1.2.2.1
          have f0 := HX2.out.1.2.2.2.1 0
          have f1 := HX2.out.1.2.2.2.1 1
          have f2 := HX2.out.1.2.2.2.1 2
          have hB : Below w.heap.size w _ := HX2.out.1.2.2.2.2.2.2
          go_wp2_with (refine bodyPost_ret (v := .tuple #[.agg #[.int .i64 0, .slice none 0 0, .slice none 0 0], .int .i64 1]) (by simp [results, Try.results94, go_sem, p0, p1, p2]) rfl (err_apply hB (by decide) _ _ _))
        · by_cases c4 : x.hi ≤ md
          · obtain ⟨hq1, p0, p1, p2⟩ := id HX2.out.1.2.2.1
            have f0 := HX2.out.1.2.2.2.1 0
            have f1 := HX2.out.1.2.2.2.1 1
            have f2 := HX2.out.1.2.2.2.1 2
            have hB : Below w.heap.size w _ := HX2.out.1.2.2.2.2.2.2
            go_wp2_with (refine bodyPost_ret (v := .tuple #[.agg #[.int .i64 0, .slice none 0 0, .slice none 0 0], .int .i64 1]) (by simp [results, Try.results94, go_sem, p0, p1, p2]) rfl (err_apply hB (by decide) _ _ _))
          · have HX3 := HX2.out
            have e4 := e3
            have hX5 := HX3.2.1.1
            have hf5 := HX3.2.2.2.1.1
            have hw5 : w.heap.size + 3 ≤ w5.heap.size := HX3.1.big
            have hB5 := YS.1
            have sm : IntKind.i64.wrap (md + 1) = md + 1 := IntWalk.i64_in _ (by omega)
            have hl1 : ([] : List Sp).length + (L.take i).length ≤ 1000000 := by rw [List.length_take, HM.out]; simp; omega
            obtain ⟨M3, hM3⟩ : ∃ M3, [] ++ L.take i = M3 := ⟨_, rfl⟩
            have HM3 := hide hM3
            have hl2 : M3.length + [(⟨x.lo, md, fr⟩ : Sp), ⟨md + 1, x.hi, tt⟩].length ≤ 1000000 := by rw [← hM3]; simp [HM.out]; omega
            obtain ⟨M4, hM4⟩ : ∃ M4, M3 ++ [(⟨x.lo, md, fr⟩ : Sp), ⟨md + 1, x.hi, tt⟩] = M4 := ⟨_, rfl⟩
            have HM4 := hide hM4
            have hM0 : 0 < M4.length := by rw [← hM4]; simp
            obtain ⟨M5, hM5⟩ : ∃ M5, M4 ++ L.drop (i + 1) = M5 := ⟨_, rfl⟩
            have HM5 := hide hM5
            have hMd : 0 < M5.length := by rw [← hM5]; simp; omega
            have hM1' : M4.length + (L.drop (i + 1)).length ≤ 1000000 := by rw [← hM4, ← hM3, List.length_drop, HM.out]; simp [HM.out]; omega
            have hM6 : M5.length ≤ m + 1 := by rw [← hM5, ← hM4, ← hM3]; simp [HM.out]; omega
            clear hM3 hM4 hM5
            have K0 : KX w v g m c f n cf 1 fr tt md L F X f' cf' F S x.lo x.hi x.sh w5.heap.size w5.drew := ⟨⟨_, HX3.drew⟩, YS, ⟨hX5, hf5, hB5, hw5, hgw, hfw⟩, Nat.le_refl _⟩
            have hSX : S ≠ X := by omega
            have KZ : KX w v g m c f n cf 1 fr tt md L F X f' cf' F S x.lo x.hi x.sh w5.heap.size w5 := ⟨⟨_, HX3⟩, YS, ⟨hX5, hf5, hB5, hw5, hgw, hfw⟩, Nat.le_refl _⟩
            have K1 : KX w v g m c f n cf 1 fr tt md L F X f' cf' F S x.lo x.hi x.sh w5.heap.size (w5.alloc (Obj.cells #[.int .i64 x.lo, .int .i64 md, .int .i64 fr, .int .i64 (md + 1), .int .i64 x.hi, .int .i64 tt] 44)).drew := (KZ.alloc (Obj.cells #[.int .i64 x.lo, .int .i64 md, .int .i64 fr, .int .i64 (md + 1), .int .i64 x.hi, .int .i64 tt] 44)).drew XSt.drew
            have LT : RdP (w5.alloc (Obj.cells #[.int .i64 x.lo, .int .i64 md, .int .i64 fr, .int .i64 (md + 1), .int .i64 x.hi, .int .i64 tt] 44)).drew (some ⟨w5.heap.size, 0, none⟩) 2 [⟨x.lo, md, fr⟩, ⟨md + 1, x.hi, tt⟩] := RdP.two w5 _ _ _ _ _ _ 44
            have hltS : w5.heap.size < (w5.alloc (Obj.cells #[.int .i64 x.lo, .int .i64 md, .int .i64 fr, .int .i64 (md + 1), .int .i64 x.hi, .int .i64 tt] 44)).drew.heap.size := by show w5.heap.size < (w5.alloc (Obj.cells #[.int .i64 x.lo, .int .i64 md, .int .i64 fr, .int .i64 (md + 1), .int .i64 x.hi, .int .i64 tt] 44)).heap.size; rw [World.size_alloc]; omega
            clear KZ
            have hii' : (i : Int) ≤ (m : Int) := by omega
            have hmc' : (m : Int) ≤ (c : Int) := by omega
            have hiln : i ≤ m := Nat.le_of_lt hil
            have hic : (i : Int) ≤ (c : Int) := by omega
            clear HX3
            go_upto_region 19 with fail
            go_cut [123] (fun _ wy => ∃ v1 z, wy = z ∧ Hid (XSt w v g m c f n cf 1 fr tt md L F X v1 f' cf' F z) ∧ Hid (OwnP z w5.heap.size v1 M4))
            case first =>
              clear s0 s1 s2 d0 d1 d2 e0 e1 e2 e3 e4 YS
              go_region_held3 (fun w' => w'.cell? ⟨w.heap.size, 1, none⟩ = some (.slice (some ⟨g, 0, none⟩) m c) ∧ w'.cell? ⟨S, 0, none⟩ = some (.int .i64 x.lo) ∧ w'.cell? ⟨S, 1, none⟩ = some (.int .i64 x.hi) ∧ w'.cell? ⟨w.heap.size + 1, 1, none⟩ = some (.int .i64 fr) ∧ w'.cell? ⟨w.heap.size + 1, 2, none⟩ = some (.int .i64 tt) ∧ w'.cell? ⟨w.heap.size + 1, 3, none⟩ = some (.int .i64 md) ∧ KX w v g m c f n cf 1 fr tt md L F X f' cf' F S x.lo x.hi x.sh w5.heap.size w')
                (first | exact SX K0 | exact SX K1 | exact SX KE2 | exact SX KE | exact SX ((XK (by assumption)).alloc _) | exact SX (KX.put1 hSX (XK (by assumption)) _) | exact SX (KX.put1 hSX KE2 _) | assumption)
                (first
                  | (refine step_app3L rfl _ _ rfl rfl (OwnP.nil _ _) rfl (KX.rdt (XK (by assumption)) HM hiln) rfl hl1 (Nat.le_refl _) HM3 ?_; intro v1 w' hown1 hb1; obtain ⟨KE, hle⟩ := KX.nx (XK (by assumption)) hb1)
                  | (refine step_app3L rfl _ _ rfl rfl (hown1.alloc _) rfl (RdP.two _ _ _ _ _ _ _ _) rfl hl2 (Nat.le_trans hb1.size (size_le_alloc _ _)) HM4 ?_; intro v2 w' hown2 hb2; obtain ⟨Aq, cq, hvq⟩ := hown2.shape; subst hvq; have KE2 := KX.under (XK (by assumption)) hle hb2; obtain ⟨x1', cx1⟩ := KE2.cell1; have fx1 := KE2.free1)
                  | (refine step_app3L rfl _ _ rfl rfl hown1 rfl (LT.below hb1 hltS) rfl hl2 hb1.size HM4 ?_; intro v2 w' hown2 hb2; obtain ⟨Aq, cq, hvq⟩ := hown2.shape; subst hvq; have KE2 := KX.under (XK (by assumption)) hle hb2; obtain ⟨x1', cx1⟩ := KE2.cell1; have fx1 := KE2.free1))
              all_goals
                go_wp2_with fail
                go_meet
                exact ⟨_, _, rfl, hide (KE2.st _), hide (OwnP.set (World.ownsRow.mono hown2 hle) hX5 _)⟩
            obtain ⟨v1, z, hz, HX4, HO⟩ := hcut
            subst hz
            clear YS s0 s1 s2 d0 d1 d2 e0 e1 e2 e3 e4 K0 K1 LT hltS HX2 hl1 hl2 sv
            obtain ⟨g4, c4', hv4, hgc4, hcm4, hgb4, hrow4⟩ := HO.out.head hM0
            subst hv4
            generalize hk4 : M4.length = k4 at hM0 hgc4 HX4 HO
            have HK4 := hide hk4
            clear hk4
            have hb4 : w5.heap.size ≤ wc.drew.heap.size := Nat.le_of_lt (Nat.lt_of_le_of_lt hgb4 hrow4.1)
            clear hrow4
            have HR4 := hide HX4.out.1.2.2.2.2.1
            obtain ⟨_, y0, y1, y2⟩ := id HX4.out.2.1
            obtain ⟨_, d0, d1, d2⟩ := id HX4.out.1.1
            have si : IntKind.i64.wrap ((i : Int) + 1) = (i : Int) + 1 := IntWalk.i64_in _ (by omega)
            have si0 : (0 : Int) ≤ (i : Int) + 1 := by omega
            have si1 : ((i : Int) + 1).toNat = i + 1 := by omega
            have si2 : (i : Int) + 1 ≤ (m : Int) := by omega
            have si3 : i + 1 ≤ m := by omega
            have si4 : (i : Int) + 1 ≤ (c : Int) := by omega
            go_upto_region 20 with fail
            go_cut [132] (fun _ wy => ∃ v2 z, wy = z ∧ Hid (XSt w v g m c f n cf 1 fr tt md L F X v2 f' cf' F z) ∧ Hid (OwnP z w5.heap.size v2 M5))
            case first =>
              have HW4 := hide HX4.out.drew
              obtain ⟨A9, hA9⟩ : ∃ A9 : Option Addr, (if c = i + 1 then some ⟨g, 0, none⟩ else some ⟨g, (i + 1) * 3, none⟩) = A9 := ⟨_, rfl⟩
              have RDL : RdP wc.drew A9 (m - (i + 1)) (L.drop (i + 1)) := RowP.drop_ HR4.out HM.out _ (fun h => by rw [← hA9]; exact if_neg (by omega))
              have HO4 : OwnP wc.drew w5.heap.size (.slice (some ⟨g4, 0, none⟩) k4 c4') M4 := HO.out
              go_region_law (first
                | (refine step_app3L rfl _ _ rfl rfl HO4 rfl RDL rfl hM1' hb4 HM5 ?_; intro v2 w' hown2 hb2; obtain ⟨Aq, cq, hvq⟩ := hown2.shape; subst hvq; have KE := HW4.out.under hX5 hf5 hw5 hgw hfw hb2; obtain ⟨_, r0, r1, r2⟩ := id KE.2.1; have fx1 := KE.2.2.1 1))
              all_goals
                go_wp2_with fail
                go_meet
                exact ⟨_, _, rfl, hide (KE.put1 hgw hfw _), hide (OwnP.set hown2 hX5 _)⟩
            obtain ⟨v2, z, hz, HX5, HO5⟩ := hcut
            subst hz
            clear y0 y1 y2 d0 d1 d2 HX4 HO HR4 hb4
            obtain ⟨g5, c5', hv5, hgc5, hcm5, hgb5, hrow5⟩ := HO5.out.head hMd
            subst hv5
            generalize hk5 : M5.length = k5 at hgc5 HX5 HO5
            have HK5 := hide hk5
            have HR5 := hide hrow5
            clear hk5 hrow5
            clear si si0 si1 si2 si3 si4 sm
            obtain ⟨tk, rfl⟩ := Int.eq_ofNat_of_zero_le ht1
            have htk : tk < n := by omega
            have htF : tk < F.length := by rw [HN.out]; exact htk
            have HGS : Hid (GoodD M5 (F.set tk (-1))) := by
              refine hide ?_
              have h := split_good HG.out HXI.out (md := md) (tt := tk) (by omega) (by omega) HNO.out (by omega) (by rw [HN.out]; omega)
              rw [HXS.out, Int.toNat_natCast] at h
              rw [← HM5.out, ← HM4.out, ← HM3.out, List.nil_append]
              exact h
            have HFS : Hid ((F.set tk (-1)).length = n) := hide (by rw [List.length_set]; exact HN.out)
            have HX6 := hide (HX5.out.putF hgw hfw tk htF (-1))
            have hgX : g5 ≠ f' := by omega
            have h53 : w.heap.size + 3 ≤ g5 := by omega
            have HR6 := hide (HR5.out.set (p := ⟨f', tk, none⟩) hgX (.int .i64 (-1)))
            obtain ⟨_, y0, y1, y2⟩ := id HX5.out.2.1
            obtain ⟨_, e0, e1, e2, e3⟩ := id HX5.out.1.2.1
            have cF := HX5.out.2.2.2.1.2 tk F[tk] (List.getElem?_eq_getElem htF)
            have fF := HX5.out.2.2.2.2.1 tk
            clear ht2 ht1 hr2
            go_upto_region 22 with fail
            rename_i KK hKK
            generalize wc.setCell ⟨f', tk, none⟩ (.int .i64 (-1)) = w6 at HX6 HR6 ⊢
            clear y0 y1 y2 e0 e1 e2 e3 cF fF HX5 HR5 HO5
            obtain ⟨hq0, y0, y1, y2⟩ := id HX6.out.2.1
            obtain ⟨hq1, p0, p1, p2⟩ := id HX6.out.1.2.2.1
            have f0 := HX6.out.1.2.2.2.1 0
            have f1 := HX6.out.1.2.2.2.1 1
            have f2 := HX6.out.1.2.2.2.1 2
            clear hm1 hmc _hcm hgw hfw hv1 hv2 hf1 hf2 hd1 hd2 hvb hn1 hn6 hm100 hb hlenF hFn hF0 x1 x2 x3 HXS HXI hii hi0 hil hx0 hSbig hXS c3 c4 hX5 hf5 hw5 hB5 hSX hii' hmc' hiln hic HM5 hMd hM1' hcm4 hgb4 hM0 hgc4 HK4 hgb5 HNO HM4 htk htF hgX HM HN HG
            go_wp2_with (refine bodyPost_ret (v := .tuple #[.agg #[.int .i64 (v + 1), .slice (some ⟨g5, 0, none⟩) k5 c5', .slice (some ⟨f', 0, none⟩) n cf'], .int .i64 0]) (by simp [results, Try.results94, go_sem, p0, p1, p2]) rfl (ret_apply HX6.out HR6.out HK5 HFS HGS hM6 hgc5 hcm5 h53 _ _ _))
  · have hzb : (z != 0) = true := by rw [bne_iff_ne]; exact hz
    have HZ := hide hz
    obtain ⟨_, p0, p1, p2⟩ := id A2.2.2.1
    have f0 := A2.2.2.2.1 0
    have f1 := A2.2.2.2.1 1
    have f2 := A2.2.2.2.1 2
    have HB := hide A2.2.2.2.2.2.2
    clear A2 hz
    go_wp2_with fail
    refine bodyPost_ret (v := .tuple #[.agg #[.int .i64 0, .slice none 0 0, .slice none 0 0], .int .i64 z]) (by simp [results, Try.results94, go_sem, p0, p1, p2]) rfl (.inl ⟨z, HZ.out, rfl, ?_⟩)
    exact ((HB.out.setCell (p := ⟨w.heap.size + 2, 0, none⟩) (by simp) _).setCell (p := ⟨w.heap.size + 2, 1, none⟩) (by simp) _).setCell (p := ⟨w.heap.size + 2, 2, none⟩) (by simp) _
end Go.Proofs.Ytaoiekcoiooghaa
