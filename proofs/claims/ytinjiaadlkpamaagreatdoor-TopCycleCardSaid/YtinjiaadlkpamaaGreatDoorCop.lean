/- census.Check and census.copies are sound as the evaluator has them. No condition. -/
import Derived.Test.YtinjiaadlkpamaaGreatDoorFnb
import Derived.Test.YtinjiaadlkpamaaGreatDoorEvd
import Derived.Test.YtinjiaadlkpamaaGreatDoorEve
import Derived.Test.YtinjiaadlkpamaaGreatDoorProg
import Derived.KernelRfl
namespace Go.Proofs.YtinjiaadlkpamaaGreatDoor.Ev.T
open Go Go.Proofs Go.Proofs.YtinjiaadlkpamaaGreatDoor Go.Proofs.YtinjiaadlkpamaaGreatDoor.Ev
set_option maxRecDepth 100000
noncomputable def c38A : C := (.rg [.o 1 (.bx (.t 0)), .o 2 (.mv (.c (.int .i64 0)))] [1, 2])
noncomputable def c38B : C := (.rg [.o 15 (.fa 43 (.t 1) 3 0), .o 16 (.ld (.t 15)), .o 17 (.ca 63 [(.t 16)]), .o 3 (.mv (.t 17))] [3])
noncomputable def c38C : C := (.rg [.o 18 (.mv (.t 3)), .o 19 (.ca 65 [(.t 18)]), .o 20 (.mm), .o 4 (.mv (.t 19)), .o 5 (.mv (.t 20))] [4, 5])
noncomputable def c38D : C := (.seq (.rg [.o 21 (.la 42 (.t 1)), .o 22 (.ca 66 [(.t 21)]), .o 23 (.ln 0 (.t 22)), .o 24 (.mv (.c (.int .i64 0)))] [22, 23, 24]) (.block 0 (.loop (.seq (.rg [.o 25 (.ilss (.t 24) (.t 23))] [25]) (.seq (.cond (.t 25) .skip (.exit 0)) (.seq (.block 1 (.seq (.rg [.o 26 (.ia 0 189 0 (.t 22) (.t 24)), .o 27 (.la 188 (.t 26)), .o 7 (.al z188), .n (.sa 188 (.t 7) (.t 27))] [7]) (.seq (.seq (.rg [.o 28 (.mv (.t 5)), .o 29 (.fa 189 (.t 7) 0 0), .o 30 (.ld (.t 29)), .o 31 (.lu .i (.bool false) (.t 28) (.t 30) false)] [31]) (.cond (.t 31) (.seq (.rg [.o 2 (.mv (.c (.int .i64 10)))] [2]) .ret) .skip)) (.rg [.o 32 (.mv (.t 5)), .o 33 (.fa 189 (.t 7) 0 0), .o 34 (.ld (.t 33)), .n (.mu .i (.t 32) (.t 34) (.c (.bool true)))] [])))) (.rg [.o 35 (.iadd (.t 24) (.c (.int .i64 1))), .o 24 (.mv (.t 35))] [24])))))))
noncomputable def c38R : C := (.seq (.rg [.o 43 (.mv (.t 4)), .o 44 (.mv (.t 8)), .o 45 (.lu .i (.int .i64 0) (.t 43) (.t 44) true), .o 42 (.mv (.t 45)), .o 46 (.ex (.t 42) 0), .o 47 (.ex (.t 42) 1), .o 9 (.mv (.t 46)), .o 10 (.mv (.t 47))] [10]) (.seq (.rg [.o 48 (.mv (.t 10)), .o 49 (.nt (.t 48))] [49]) (.cond (.t 49) (.seq (.rg [.o 2 (.mv (.c (.int .i64 7)))] [2]) .ret) .skip)))
noncomputable def c38Y : C := (.seq (.seq (.rg [.o 50 (.fa 43 (.t 1) 2 0), .o 51 (.ld (.t 50)), .o 52 (.ln 0 (.t 51)), .o 53 (.mv (.c (.int .i64 0)))] [51, 52, 53]) (.block 4 (.loop (.seq (.rg [.o 54 (.ilss (.t 53) (.t 52))] [54]) (.seq (.cond (.t 54) .skip (.exit 4)) (.seq (.block 5 (.seq (.rg [.o 55 (.ia 0 78 0 (.t 51) (.t 53)), .o 56 (.la 77 (.t 55)), .o 12 (.al z77), .n (.sa 77 (.t 12) (.t 56))] [12]) (.seq (.seq (.rg [.o 57 (.fa 78 (.t 12) 1 54), .o 58 (.fa 54 (.t 57) 0 0), .o 59 (.ld (.t 58)), .o 60 (.ne .i (.t 59) (.c (.int .i64 1)))] [60]) (.cond (.t 60) (.exit 5) .skip)) (.seq (.rg [.o 61 (.fa 78 (.t 12) 7 0), .o 62 (.ld (.t 61)), .o 63 (.ln 0 (.t 62)), .o 64 (.mv (.c (.int .i64 0)))] [62, 63, 64]) (.block 6 (.loop (.seq (.rg [.o 65 (.ilss (.t 64) (.t 63))] [65]) (.seq (.cond (.t 65) .skip (.exit 6)) (.seq (.block 7 (.seq (.rg [.o 66 (.ia 0 50 0 (.t 62) (.t 64)), .o 67 (.la 49 (.t 66)), .o 14 (.al z49), .n (.sa 49 (.t 14) (.t 67))] [14]) (.seq (.rg [.o 68 (.fa 50 (.t 14) 0 0), .o 69 (.ld (.t 68)), .o 70 (.eq .i (.t 69) (.c (.int .i64 0))), .o 71 (.mv (.t 70)), .g 71 true 72 (.mv (.t 5)), .g 71 true 73 (.fa 50 (.t 14) 1 0), .g 71 true 74 (.ld (.t 73)), .g 71 true 75 (.lu .i (.bool false) (.t 72) (.t 74) false), .g 71 true 76 (.nt (.t 75)), .o 77 (.pk (.t 71) (.t 76) (.c (.bool false))), .o 78 (.mv (.t 77)), .g 78 true 79 (.mv (.t 3)), .g 78 true 80 (.fa 50 (.t 14) 1 0), .g 78 true 81 (.ld (.t 80)), .g 78 true 82 (.mv (.t 4)), .g 78 true 83 (.ca 67 [(.t 79), (.t 81), (.t 82)]), .g 78 true 84 (.nt (.t 83)), .o 85 (.pk (.t 78) (.t 84) (.c (.bool false)))] [85]) (.cond (.t 85) (.seq (.rg [.o 2 (.mv (.c (.int .i64 4)))] [2]) .ret) .skip)))) (.rg [.o 86 (.iadd (.t 64) (.c (.int .i64 1))), .o 64 (.mv (.t 86))] [64])))))))))) (.rg [.o 87 (.iadd (.t 53) (.c (.int .i64 1))), .o 53 (.mv (.t 87))] [53]))))))) (.seq (.rg [.o 2 (.mv (.c (.int .i64 0)))] [2]) .ret))
noncomputable def f38' : FD := ⟨.seq c38A (.seq c38B (.seq c38C (.seq c38D (.seq (.mr 5 37 8 c38R) c38Y)))), [.t 2], .q, 1⟩
theorem nt {x : Bool} (h : x = false) : ¬ x = true := by rw [h]; simp
theorem snd38 (hty : TyOk Tryz.prog) (hmx : Tryz.prog.follows .mixedOrders = true) (hX : XsOk Tryz.prog (297, 295, 296)) {J : Nat → Option TypeInfo} (hJ : Tryz.prog.info? = J) (hn : Tryz.prog.types.size = 565)
    (hk : ∀ {c : C} {cd : Code}, mck (mikJ (tyJ Tryz.prog Tryz.types.toList 565) 565 (shk Tryz.prog) (297, 295, 296)) 88 38685696590220001416336831 cd c = true → mck (mikJ J 565 (shk Tryz.prog) (297, 295, 296)) 88 38685696590220001416336831 cd c = true) : Snd Tryz.prog 38 f38' := by
  refine ⟨⟨_, Tryz.func38, by kernel_rfl, by kernel_rfl⟩, ?_⟩
  intro rec hrec hfn av wm s r vs h hi hw hv
  have key := fun {c : C} {cd : Code} (h : mck (mikJ (tyJ Tryz.prog Tryz.types.toList 565) 565 (shk Tryz.prog) (297, 295, 296)) 88 38685696590220001416336831 cd c = true) => CodeW.mck hty hmx hX hJ hn hrec hfn (N := ⟨88, []⟩) (hk h)
  refine body_okW hty Tryz.func38 (V := fun i => tb 38685696590220001416336831 i = true) (c := .seq _ (.seq _ (.seq _ (.seq _ (.seq (mrCode _ _ _ _ _ _ _ _ _ _ _ _ _) _))))) rfl (by exact Nat.le_of_ble_eq_true (by kernel_rfl)) (parok_ok (np := 1) (by kernel_rfl)) (show All2 (fun r f => rvm Tryz.prog r f = true) [Rv.t 2] [ResultVar.tmp 2] from .cons rfl .nil) ?_ h hi hw hv
  refine (key ?_).seq ((key ?_).seq ((key ?_).seq ((key ?_).seq (CodeW.seq (mr_ok (tm := 184) (by decide) ⟨by kernel_rfl, by kernel_rfl, nt (by kernel_rfl), nt (by kernel_rfl), nt (by kernel_rfl), nt (by kernel_rfl), nt (by kernel_rfl)⟩ (key ?_) Tryz.underlying184 ⟨rfl, rfl, rfl⟩ ⟨rfl, rfl, rfl⟩ ⟨rfl, rfl, rfl⟩ ⟨rfl, rfl, rfl⟩ ⟨rfl, rfl, rfl⟩ ⟨rfl, rfl, rfl⟩ ⟨rfl, rfl, rfl⟩) (key ?_)))))
  all_goals kernel_rfl
end Go.Proofs.YtinjiaadlkpamaaGreatDoor.Ev.T
namespace Go.Proofs.YtinjiaadlkpamaaGreatDoor.Ev
open Go.RowKit
section
variable {P : Program} {M : I → Oper → Bool} {N : Nat} {mi : I → Oper → Prop}
theorem gs_of (hM : ∀ i o, M i o = true → mi i o) {is : List G} {ops : Array Oper} (h : gsk M N ops is ops.toList = true) : GS (fun g j => ∃ o, ops[j]? = some o ∧ GOk P N mi ops g o) is (List.range ops.size) := by
  have hg := gsk_ok (P := P) (ops := ops) (k := 0) hM (fun i o hi => by simpa using hi) h
  rw [← List.range_eq_range', Array.length_toList] at hg
  exact hg
theorem gs_mid (hM : ∀ i o, M i o = true → mi i o) {is : List G} {ops : Array Oper} {k m n : Nat} (hm : n = m) (hl : ((ops.toList.drop k).take m).length = m) (h : gsk M N ops is ((ops.toList.drop k).take m) = true) : GS (fun g j => ∃ o, ops[j]? = some o ∧ GOk P N mi ops g o) is (List.range' k n) := by
  have hg := gsk_ok (P := P) (ops := ops) (k := k) hM (fun i o hi => by
    rw [List.getElem?_take] at hi
    split at hi
    · rw [List.getElem?_drop] at hi
      simpa using hi
    · cases hi) h
  rw [hl] at hg
  rw [hm]
  exact hg
theorem gs_one (hM : ∀ i o, M i o = true → mi i o) {g : G} {ops : Array Oper} {k : Nat} {o : Oper} (ho : ops[k]? = some o) (h : gsk M N ops [g] [o] = true) : GS (fun g j => ∃ o, ops[j]? = some o ∧ GOk P N mi ops g o) [g] [k] := by
  have hg := gsk_ok (P := P) (ops := ops) (k := k) hM (fun i o' hi => by
    cases i with
    | zero =>
      have : o = o' := by simpa using hi
      subst this
      exact ho
    | succ i => simp at hi) h
  exact hg
theorem nm {l : List G} {j : Nat} (h : (dsts l).contains j = false) : j ∉ dsts l := by
  intro hm
  rw [List.contains_eq_mem] at h
  simp [hm] at h
end
namespace T
open Go Go.Proofs Go.Proofs.YtinjiaadlkpamaaGreatDoor Go.Proofs.YtinjiaadlkpamaaGreatDoor.Ev
set_option maxRecDepth 100000
theorem it138 (hty : TyOk Tryz.prog) (hX : XsOk Tryz.prog (297, 295, 296)) {J : Nat → Option TypeInfo} (hJ : Tryz.prog.info? = J) (hn : Tryz.prog.types.size = 565)
    (hk : ∀ {N : Nat} {is : List G} {os : List Oper} {ops : Array Oper}, gsk (mikJ (tyJ Tryz.prog Tryz.types.toList 565) 565 (shk Tryz.prog) (297, 295, 296)) N ops is os = true → gsk (mikJ J 565 (shk Tryz.prog) (297, 295, 296)) N ops is os = true) :
    ItOk Tryz.prog 138 (i1380 ++ [.o 8 (.ln 0 (.t 7)), .o 9 (.mv (.c (.int .i64 0)))]) i1382 (.o 13 (.mv (.t 0)) :: i1383) 8 20 := by
  have hM : ∀ i o, mikJ J 565 (shk Tryz.prog) (297, 295, 296) i o = true → mik Tryz.prog (297, 295, 296) i o = true := by
    intro i o hm
    rw [← hJ, ← hn, mikJ_eq] at hm
    exact hm
  refine it_ok (cnd := 10) (ty := 13) (c1 := 21) (c2 := 22) (c5 := 23) hty hX Tryz.func138 (by kernel_rfl) rfl rfl (by exact Nat.le_of_ble_eq_true (by kernel_rfl)) (by decide) ?_
  refine ⟨gs_of hM (hk ?_), gs_of hM (hk ?_), gs_of hM (hk ?_), gs_mid (m := 7) hM ?_ ?_ (hk ?_), by exact Nat.le_of_ble_eq_true (by kernel_rfl), ⟨_, rfl, rfl, rfl, rfl⟩, ⟨_, _, rfl, rfl, rfl, rfl⟩, gs_one hM rfl (hk ?_), gs_of hM (hk ?_), ⟨nm ?_, nm ?_⟩, ⟨nm ?_, nm ?_, nm ?_⟩, ⟨nm ?_, nm ?_, nm ?_⟩, by decide, ⟨by exact Nat.le_of_ble_eq_true (by kernel_rfl), by exact Nat.le_of_ble_eq_true (by kernel_rfl)⟩⟩
  all_goals kernel_rfl
theorem it141 (hty : TyOk Tryz.prog) (hX : XsOk Tryz.prog (297, 295, 296)) {J : Nat → Option TypeInfo} (hJ : Tryz.prog.info? = J) (hn : Tryz.prog.types.size = 565)
    (hk : ∀ {N : Nat} {is : List G} {os : List Oper} {ops : Array Oper}, gsk (mikJ (tyJ Tryz.prog Tryz.types.toList 565) 565 (shk Tryz.prog) (297, 295, 296)) N ops is os = true → gsk (mikJ J 565 (shk Tryz.prog) (297, 295, 296)) N ops is os = true) :
    ItOk Tryz.prog 141 (i1410 ++ [.o 7 (.ln 0 (.t 6)), .o 8 (.mv (.c (.int .i64 0)))]) i1412 (.o 12 (.mv (.t 0)) :: i1413) 7 22 := by
  have hM : ∀ i o, mikJ J 565 (shk Tryz.prog) (297, 295, 296) i o = true → mik Tryz.prog (297, 295, 296) i o = true := by
    intro i o hm
    rw [← hJ, ← hn, mikJ_eq] at hm
    exact hm
  refine it_ok (cnd := 9) (ty := 12) (c1 := 23) (c2 := 24) (c5 := 25) hty hX Tryz.func141 (by kernel_rfl) rfl rfl (by exact Nat.le_of_ble_eq_true (by kernel_rfl)) (by decide) ?_
  refine ⟨gs_of hM (hk ?_), gs_of hM (hk ?_), gs_of hM (hk ?_), gs_mid (m := 10) hM ?_ ?_ (hk ?_), by exact Nat.le_of_ble_eq_true (by kernel_rfl), ⟨_, rfl, rfl, rfl, rfl⟩, ⟨_, _, rfl, rfl, rfl, rfl⟩, gs_one hM rfl (hk ?_), gs_of hM (hk ?_), ⟨nm ?_, nm ?_⟩, ⟨nm ?_, nm ?_, nm ?_⟩, ⟨nm ?_, nm ?_, nm ?_⟩, by decide, ⟨by exact Nat.le_of_ble_eq_true (by kernel_rfl), by exact Nat.le_of_ble_eq_true (by kernel_rfl)⟩⟩
  all_goals kernel_rfl
theorem snd70 (hty : TyOk Tryz.prog) (hmx : Tryz.prog.follows .mixedOrders = true) (hX : XsOk Tryz.prog (297, 295, 296)) {J : Nat → Option TypeInfo} (hJ : Tryz.prog.info? = J) (hn : Tryz.prog.types.size = 565)
    (hk : ∀ {c : C} {cd : Code}, mck (mikJ (tyJ Tryz.prog Tryz.types.toList 565) 565 (shk Tryz.prog) (297, 295, 296)) 80 15273904097154677591487 cd c = true → mck (mikJ J 565 (shk Tryz.prog) (297, 295, 296)) 80 15273904097154677591487 cd c = true)
    (hk' : ∀ {N : Nat} {is : List G} {os : List Oper} {ops : Array Oper}, gsk (mikJ (tyJ Tryz.prog Tryz.types.toList 565) 565 (shk Tryz.prog) (297, 295, 296)) N ops is os = true → gsk (mikJ J 565 (shk Tryz.prog) (297, 295, 296)) N ops is os = true) : Snd Tryz.prog 70 f70' := by
  refine ⟨⟨_, Tryz.func70, by kernel_rfl, by kernel_rfl⟩, ?_⟩
  intro rec hrec hfn av wm s r vs h hi hw hv
  have key := fun {ds : List Deferred} {c : C} {cd : Code} (h : mck (mikJ (tyJ Tryz.prog Tryz.types.toList 565) 565 (shk Tryz.prog) (297, 295, 296)) 80 15273904097154677591487 cd c = true) => CodeW.mck hty hmx hX hJ hn hrec hfn (N := ⟨80, ds⟩) (hk h)
  have keyM := fun {c : C} {cd : Code} (h : mck (mikJ (tyJ Tryz.prog Tryz.types.toList 565) 565 (shk Tryz.prog) (297, 295, 296)) 80 15273904097154677591487 cd c = true) => CodeM.of (fun ds => key (ds := ds) h)
  refine body_okM hty Tryz.func70 (V := fun i => tb 15273904097154677591487 i = true) (c := .seq _ (.seq _ (.seq _ (.seq _ (.seq _ (.seq _ (.seq (.seq _ (.block _ (.loop (.seq _ (.seq _ (.seq (.block _ (.seq _ (.seq _ (.block _ (.rangeFunc (.tmp 72) #[73] _ _))))) _)))))) _))))))) rfl (by exact Nat.le_of_ble_eq_true (by kernel_rfl)) (parok_ok (np := 1) (by kernel_rfl)) (show All2 (fun r f => rvm Tryz.prog r f = true) [Rv.t 2] [ResultVar.tmp 2] from .cons rfl .nil) ?_ h hi hw hv
  refine (keyM ?_).seq ((keyM ?_).seq ((keyM ?_).seq ((keyM ?_).seq ((keyM ?_).seq ((keyM ?_).seq (CodeM.seq (CodeM.seq (keyM ?_) (CodeM.block (CodeM.loop (CodeM.seq (keyM ?_) (CodeM.seq (keyM ?_) (CodeM.seq (CodeM.block (CodeM.seq (keyM ?_) (CodeM.seq (keyM ?_) (CodeM.block (rf_ok hrec hfn (it138 hty hX hJ hn hk') (it141 hty hX hJ hn hk') (key (ds := []) ?_) (key (ds := []) ?_) ?_ ?_))))) (keyM ?_))))))) (keyM ?_)))))))
  all_goals first | kernel_rfl | exact Nat.le_of_ble_eq_true (by kernel_rfl)
end T
end Go.Proofs.YtinjiaadlkpamaaGreatDoor.Ev
