/- census.Check and census.copies are sound as the evaluator has them. No condition. -/
import Derived.Test.YtgaghaggiblabaaGreatDoorFna
import Derived.Test.YtgaghaggiblabaaGreatDoorEvd
import Derived.Test.YtgaghaggiblabaaGreatDoorOnc
import Derived.Test.YtgaghaggiblabaaGreatDoorEve
import Derived.Test.YtgaghaggiblabaaGreatDoorProg
import Derived.KernelRfl
set_option linter.all false
namespace Go.Proofs.YtgaghaggiblabaaGreatDoor.Ev.T
open Go Go.Proofs Go.Proofs.YtgaghaggiblabaaGreatDoor Go.Proofs.YtgaghaggiblabaaGreatDoor.Ev
set_option maxRecDepth 100000
noncomputable def c49A : C := (.rg [.o 1 (.bx (.t 0)), .o 2 (.mv (.c (.int .i64 0)))] [1, 2])
noncomputable def c49B : C := (.rg [.o 15 (.fa 45 (.t 1) 3 0), .o 16 (.ld (.t 15)), .o 17 (.ca 82 [(.t 16)]), .o 3 (.mv (.t 17))] [3])
noncomputable def c49C : C := (.rg [.o 18 (.mv (.t 3)), .o 19 (.ca 84 [(.t 18)]), .o 20 (.mm), .o 4 (.mv (.t 19)), .o 5 (.mv (.t 20))] [4, 5])
noncomputable def c49D : C := (.seq (.rg [.o 21 (.la 44 (.t 1)), .o 22 (.ca 85 [(.t 21)]), .o 23 (.ln 0 (.t 22)), .o 24 (.mv (.c (.int .i64 0)))] [22, 23, 24]) (.block 0 (.loop (.seq (.rg [.o 25 (.ilss (.t 24) (.t 23))] [25]) (.seq (.cond (.t 25) .skip (.exit 0)) (.seq (.block 1 (.seq (.rg [.o 26 (.ia 0 201 0 (.t 22) (.t 24)), .o 27 (.la 200 (.t 26)), .o 7 (.al z200), .n (.sa 200 (.t 7) (.t 27))] [7]) (.seq (.seq (.rg [.o 28 (.mv (.t 5)), .o 29 (.fa 201 (.t 7) 0 0), .o 30 (.ld (.t 29)), .o 31 (.lu .i (.bool false) (.t 28) (.t 30) false)] [31]) (.cond (.t 31) (.seq (.rg [.o 2 (.mv (.c (.int .i64 10)))] [2]) .ret) .skip)) (.rg [.o 32 (.mv (.t 5)), .o 33 (.fa 201 (.t 7) 0 0), .o 34 (.ld (.t 33)), .n (.mu .i (.t 32) (.t 34) (.c (.bool true)))] [])))) (.rg [.o 35 (.iadd (.t 24) (.c (.int .i64 1))), .o 24 (.mv (.t 35))] [24])))))))
noncomputable def c49R : C := (.seq (.rg [.o 43 (.mv (.t 4)), .o 44 (.mv (.t 8)), .o 45 (.lu .i (.int .i64 0) (.t 43) (.t 44) true), .o 42 (.mv (.t 45)), .o 46 (.ex (.t 42) 0), .o 47 (.ex (.t 42) 1), .o 9 (.mv (.t 46)), .o 10 (.mv (.t 47))] [10]) (.seq (.rg [.o 48 (.mv (.t 10)), .o 49 (.nt (.t 48))] [49]) (.cond (.t 49) (.seq (.rg [.o 2 (.mv (.c (.int .i64 7)))] [2]) .ret) .skip)))
noncomputable def c49Y : C := (.seq (.seq (.rg [.o 50 (.fa 45 (.t 1) 2 0), .o 51 (.ld (.t 50)), .o 52 (.ln 0 (.t 51)), .o 53 (.mv (.c (.int .i64 0)))] [51, 52, 53]) (.block 4 (.loop (.seq (.rg [.o 54 (.ilss (.t 53) (.t 52))] [54]) (.seq (.cond (.t 54) .skip (.exit 4)) (.seq (.block 5 (.seq (.rg [.o 55 (.ia 0 77 0 (.t 51) (.t 53)), .o 56 (.la 76 (.t 55)), .o 12 (.al z76), .n (.sa 76 (.t 12) (.t 56))] [12]) (.seq (.seq (.rg [.o 57 (.fa 77 (.t 12) 1 54), .o 58 (.fa 54 (.t 57) 0 0), .o 59 (.ld (.t 58)), .o 60 (.ne .i (.t 59) (.c (.int .i64 1)))] [60]) (.cond (.t 60) (.exit 5) .skip)) (.seq (.rg [.o 61 (.fa 77 (.t 12) 7 0), .o 62 (.ld (.t 61)), .o 63 (.ln 0 (.t 62)), .o 64 (.mv (.c (.int .i64 0)))] [62, 63, 64]) (.block 6 (.loop (.seq (.rg [.o 65 (.ilss (.t 64) (.t 63))] [65]) (.seq (.cond (.t 65) .skip (.exit 6)) (.seq (.block 7 (.seq (.rg [.o 66 (.ia 0 79 0 (.t 62) (.t 64)), .o 67 (.la 78 (.t 66)), .o 14 (.al z78), .n (.sa 78 (.t 14) (.t 67))] [14]) (.seq (.rg [.o 68 (.fa 79 (.t 14) 0 0), .o 69 (.ld (.t 68)), .o 70 (.eq .i (.t 69) (.c (.int .i64 0))), .o 71 (.mv (.t 70)), .g 71 true 72 (.mv (.t 5)), .g 71 true 73 (.fa 79 (.t 14) 1 0), .g 71 true 74 (.ld (.t 73)), .g 71 true 75 (.lu .i (.bool false) (.t 72) (.t 74) false), .g 71 true 76 (.nt (.t 75)), .o 77 (.pk (.t 71) (.t 76) (.c (.bool false))), .o 78 (.mv (.t 77)), .g 78 true 79 (.mv (.t 3)), .g 78 true 80 (.fa 79 (.t 14) 1 0), .g 78 true 81 (.ld (.t 80)), .g 78 true 82 (.mv (.t 4)), .g 78 true 83 (.ca 86 [(.t 79), (.t 81), (.t 82)]), .g 78 true 84 (.nt (.t 83)), .o 85 (.pk (.t 78) (.t 84) (.c (.bool false)))] [85]) (.cond (.t 85) (.seq (.rg [.o 2 (.mv (.c (.int .i64 4)))] [2]) .ret) .skip)))) (.rg [.o 86 (.iadd (.t 64) (.c (.int .i64 1))), .o 64 (.mv (.t 86))] [64])))))))))) (.rg [.o 87 (.iadd (.t 53) (.c (.int .i64 1))), .o 53 (.mv (.t 87))] [53]))))))) (.seq (.rg [.o 2 (.mv (.c (.int .i64 0)))] [2]) .ret))
noncomputable def f49' : FD := ⟨.seq c49A (.seq c49B (.seq c49C (.seq c49D (.seq (.mr 5 37 8 c49R) c49Y)))), [.t 2], .q, 1⟩
variable {X : Nat -> AV} {NN : Nat -> Int} {hC : HC NN}
theorem nt {x : Bool} (h : x = false) : ¬ x = true := by rw [h]; simp
theorem snd49 (hty : TyOk (QX X NN hC)) (hmx : (QX X NN hC).follows .mixedOrders = true) (hX : XsOk (QX X NN hC) (256, 254, 255)) {J : Nat -> Option TypeInfo} (hJ : (QX X NN hC).info? = J) (hn : (QX X NN hC).types.size = 568)
  (hk : ∀ {c : C} {cd : Code}, mck (mikJ (tyJ (QX X NN hC) Tryz.types.toList 568) 568 (shk (QX X NN hC)) (256, 254, 255)) 88 38685696590220001416336831 cd c = true -> mck (mikJ J 568 (shk (QX X NN hC)) (256, 254, 255)) 88 38685696590220001416336831 cd c = true) : Snd (QX X NN hC) 49 f49' := by
 refine ⟨⟨_, Tryz.func49, by kernel_rfl, by kernel_rfl⟩, ?_⟩
 intro rec hrec hfn av wm s r vs h hi hw hv
 have key := fun {c : C} {cd : Code} (h : mck (mikJ (tyJ (QX X NN hC) Tryz.types.toList 568) 568 (shk (QX X NN hC)) (256, 254, 255)) 88 38685696590220001416336831 cd c = true) => CodeW.mck hty hmx hX hJ hn hrec hfn (N := ⟨88, []⟩) (hk h)
 refine body_okW hty Tryz.func49 (V := fun i => tb 38685696590220001416336831 i = true) (c := .seq _ (.seq _ (.seq _ (.seq _ (.seq (mrCode _ _ _ _ _ _ _ _ _ _ _ _ _) _))))) rfl (by exact Nat.le_of_ble_eq_true (by kernel_rfl)) (parok_ok (np := 1) (by kernel_rfl)) (show All2 (fun r f => rvm (QX X NN hC) r f = true) [Rv.t 2] [ResultVar.tmp 2] from .cons rfl .nil) ?_ h hi hw hv
 refine (key ?_).seq ((key ?_).seq ((key ?_).seq ((key ?_).seq (CodeW.seq (mr_ok (tm := 196) (by decide) ⟨by kernel_rfl, by kernel_rfl, nt (by kernel_rfl), nt (by kernel_rfl), nt (by kernel_rfl), nt (by kernel_rfl), nt (by kernel_rfl)⟩ (key ?_) Tryz.underlying196 ⟨rfl, rfl, rfl⟩ ⟨rfl, rfl, rfl⟩ ⟨rfl, rfl, rfl⟩ ⟨rfl, rfl, rfl⟩ ⟨rfl, rfl, rfl⟩ ⟨rfl, rfl, rfl⟩ ⟨rfl, rfl, rfl⟩) (key ?_)))))
 all_goals kernel_rfl
end Go.Proofs.YtgaghaggiblabaaGreatDoor.Ev.T
namespace Go.Proofs.YtgaghaggiblabaaGreatDoor.Ev.T
noncomputable def c89A : C := (.rg [.o 1 (.bx (.t 0)), .o 2 (.mv (.c .sn))] [1, 2])
noncomputable def c89B : C := (.rg [.o 3 (.mv (.c .sn))] [3])
noncomputable def c89C : C := (.seq (.rg [.o 12 (.fa 45 (.t 1) 1 40), .o 13 (.fa 40 (.t 12) 0 0), .o 14 (.ld (.t 13)), .o 15 (.ln 0 (.t 14)), .o 16 (.mv (.c (.int .i64 0)))] [14, 15, 16]) (.block 0 (.loop (.seq (.rg [.o 17 (.ilss (.t 16) (.t 15))] [17]) (.seq (.cond (.t 17) .skip (.exit 0)) (.seq (.block 1 (.seq (.rg [.o 18 (.mv (.t 16)), .o 19 (.ia 0 134 0 (.t 14) (.t 16)), .o 20 (.la 133 (.t 19)), .o 5 (.al z133), .o 4 (.mv (.t 18)), .n (.sa 133 (.t 5) (.t 20))] [5, 4]) (.dr [.p none (some 21) (.mv (.t 3)), .p none (some 22) (.fa 134 (.t 5) 1 125), .p none (some 23) (.fa 125 (.t 22) 3 119), .a none (some 24) false false [] (.la 118 (.t 23)), .a none (some 25) false true [] (.ca 167 [(.t 24)]), .p none (some 26) (.mv (.t 4)), .a none (some 27) false true [] (.ca 166 [(.t 25), (.c (.int .i64 1)), (.t 26)]), .p none (some 28) (.fa 134 (.t 5) 1 125), .p none (some 29) (.fa 125 (.t 28) 4 123), .p none (some 30) (.fa 123 (.t 29) 0 0), .a none (some 31) false false [5, 3] (.ld (.t 30)), .p none (some 32) (.mv (.t 4)), .a none (some 33) false true [] (.ca 168 [(.t 31), (.t 32)]), .e none (some 34) (.bs .nilf 2 [(0, (.t 27)), (1, (.t 33))]), .a none (some 35) true true [] (.ap 0 (.t 21) (.t 34)), .p none (some 3) (.mv (.t 35))] [3]))) (.rg [.o 36 (.iadd (.t 16) (.c (.int .i64 1))), .o 16 (.mv (.t 36))] [16])))))))
noncomputable def c89D : C := (.seq (.rg [.o 37 (.fa 45 (.t 1) 2 0), .o 38 (.ld (.t 37)), .o 39 (.ln 0 (.t 38)), .o 40 (.mv (.c (.int .i64 0)))] [38, 39, 40]) (.block 2 (.loop (.seq (.rg [.o 41 (.ilss (.t 40) (.t 39))] [41]) (.seq (.cond (.t 41) .skip (.exit 2)) (.seq (.block 3 (.seq (.rg [.o 42 (.ia 0 77 0 (.t 38) (.t 40)), .o 43 (.la 76 (.t 42)), .o 7 (.al z76), .n (.sa 76 (.t 7) (.t 43))] [7]) (.dr [.p none (some 44) (.mv (.t 3)), .a none (some 45) false false [] (.la 76 (.t 7)), .a none (some 46) false false [] (.ca 169 [(.t 45)]), .p none (some 47) (.fa 77 (.t 7) 0 0), .a none (some 48) false false [] (.ld (.t 47)), .a none (some 49) false true [] (.ca 166 [(.t 46), (.c (.int .i64 3)), (.t 48)]), .e none (some 50) (.bs .nilf 1 [(0, (.t 49))]), .a none (some 51) true true [] (.ap 0 (.t 44) (.t 50)), .p none (some 3) (.mv (.t 51))] [3]))) (.rg [.o 52 (.iadd (.t 40) (.c (.int .i64 1))), .o 40 (.mv (.t 52))] [40])))))))
noncomputable def c89E : C := (.rg [.o 53 (.mv (.t 3)), .o 54 (.fa 45 (.t 1) 1 40), .o 55 (.fa 40 (.t 54) 2 35), .o 56 (.fa 35 (.t 55) 1 33), .o 57 (.fa 33 (.t 56) 1 0), .o 58 (.ld (.t 57)), .o 59 (.fa 45 (.t 1) 1 40), .o 60 (.fa 40 (.t 59) 0 0), .o 61 (.ld (.t 60)), .o 62 (.ln 0 (.t 61)), .o 63 (.ca 166 [(.t 58), (.c (.int .i64 4)), (.t 62)]), .o 64 (.bs .nilf 1 [(0, (.t 63))]), .o 65 (.ap 0 (.t 53) (.t 64)), .o 3 (.mv (.t 65))] [3])
noncomputable def c89F : C := (.rg [.o 8 (.al .sn)] [8])
noncomputable def c89r14 : C := (.rg [.o 66 (.mv (.t 3)), .o 67 (.ln 0 (.t 66)), .o 68 (.mv (.c (.int .i64 0)))] [66, 67, 68])
noncomputable def c89r15 : C := (.rg [.o 69 (.ilss (.t 68) (.t 67))] [69])
noncomputable def c89cnd : C := (.cond (.t 69) .skip (.exit 4))
noncomputable def c89r16 : C := (.rg [.o 70 (.ia 0 0 0 (.t 66) (.t 68)), .o 71 (.ld (.t 70)), .o 10 (.mv (.t 71))] [10])
noncomputable def c89r17 : C := (.rg [.o 72 (.mv (.t 10))] [72])
noncomputable def c89r20 : C := (.rg [.o 78 (.iadd (.t 68) (.c (.int .i64 1))), .o 68 (.mv (.t 78))] [68])
noncomputable def c89Z : C := (.seq (.rg [.o 79 (.ld (.t 8)), .o 2 (.mv (.t 79))] [2]) .ret)
noncomputable def c89Ra : C := (.rg [.o 11 (.al z208), .n (.sa 208 (.t 11) (.t 73))] [11])
noncomputable def c89Rb : C := (.block 7 (.rg [.o 74 (.ld (.t 8)), .o 75 (.la 208 (.t 11)), .o 76 (.bs z208 1 [(0, (.t 75))]), .o 77 (.ap 209 (.t 74) (.t 76)), .n (.st (.t 8) (.t 77))] []))
noncomputable def i2370 : List G := [.o 7 (.ld (.t 1))]
noncomputable def i2372 : List G := [.o 11 (.ia 0 207 0 (.t 7) (.t 9)), .o 12 (.la 206 (.t 11)), .o 6 (.al z206), .n (.sa 206 (.t 6) (.t 12))]
noncomputable def i2373 : List G := [.o 14 (.fa 207 (.t 6) 0 0), .o 15 (.ld (.t 14)), .o 16 (.ld (.t 2)), .o 17 (.ld (.t 3)), .o 18 (.bl z200 [(0, (.t 15)), (1, (.t 16)), (2, (.t 17))]), .o 19 (.la 206 (.t 6)), .o 20 (.bl z208 [(0, (.t 18)), (1, (.t 19)), (2, (.c (.int .i64 0)))])]
noncomputable def i2400 : List G := [.o 6 (.ld (.t 1))]
noncomputable def i2402 : List G := [.o 10 (.ia 0 350 0 (.t 6) (.t 8)), .o 11 (.la 349 (.t 10)), .o 5 (.al z349), .n (.sa 349 (.t 5) (.t 11))]
noncomputable def i2403 : List G := [.o 13 (.fa 350 (.t 5) 0 207), .o 14 (.fa 207 (.t 13) 0 0), .o 15 (.ld (.t 14)), .o 16 (.ld (.t 2)), .o 17 (.bl z200 [(0, (.t 15)), (1, (.c (.int .i64 2))), (2, (.t 16))]), .o 18 (.fa 350 (.t 5) 0 207), .o 19 (.la 206 (.t 18)), .o 20 (.fa 350 (.t 5) 1 0), .o 21 (.ld (.t 20)), .o 22 (.bl z208 [(0, (.t 17)), (1, (.t 19)), (2, (.t 21))])]
noncomputable def m0 : List G := i2370 ++ [.o 8 (.ln 0 (.t 7)), .o 9 (.mv (.c (.int .i64 0)))]
noncomputable def m3 : List G := .o 13 (.mv (.t 0)) :: i2373
noncomputable def l0 : List G := i2400 ++ [.o 7 (.ln 0 (.t 6)), .o 8 (.mv (.c (.int .i64 0)))]
noncomputable def l3 : List G := .o 12 (.mv (.t 0)) :: i2403
noncomputable def c89I : C := .rf 72 73 237 8 20 240 7 22 m0 i2372 m3 l0 i2402 l3 c89Ra c89Rb
noncomputable def f89' : FD := ⟨.seq c89A (.seq c89B (.seq c89C (.seq c89D (.seq c89E (.seq c89F (.seq (.seq c89r14 (.block 4 (.loop (.seq c89r15 (.seq c89cnd (.seq (.block 5 (.seq c89r16 (.seq c89r17 (.block 6 c89I)))) c89r20)))))) c89Z)))))), [.t 2], .q, 1⟩
end Go.Proofs.YtgaghaggiblabaaGreatDoor.Ev.T
namespace Go.Proofs.YtgaghaggiblabaaGreatDoor.Ev
open Go.RowKit
section
variable {P : PX} {M : I -> Oper -> Bool} {N : Nat} {mi : I -> Oper -> Prop}
theorem gs_of (hM : ∀ i o, M i o = true -> mi i o) {is : List G} {ops : Array Oper} (h : gsk M N ops is ops.toList = true) : GS (fun g j => ∃ o, ops[j]? = some o /\ GOk P N mi ops g o) is (List.range ops.size) := by
 have hg := gsk_ok (P := P) (ops := ops) (k := 0) hM (fun i o hi => by simpa using hi) h
 rw [<- List.range_eq_range', Array.length_toList] at hg
 exact hg
theorem gs_mid (hM : ∀ i o, M i o = true -> mi i o) {is : List G} {ops : Array Oper} {k m n : Nat} (hm : n = m) (hl : ((ops.toList.drop k).take m).length = m) (h : gsk M N ops is ((ops.toList.drop k).take m) = true) : GS (fun g j => ∃ o, ops[j]? = some o /\ GOk P N mi ops g o) is (List.range' k n) := by
 have hg := gsk_ok (P := P) (ops := ops) (k := k) hM (fun i o hi => by
  rw [List.getElem?_take] at hi
  split at hi
  ·rw [List.getElem?_drop] at hi
   simpa using hi
  ·cases hi) h
 rw [hl] at hg
 rw [hm]
 exact hg
theorem gs_one (hM : ∀ i o, M i o = true -> mi i o) {g : G} {ops : Array Oper} {k : Nat} {o : Oper} (ho : ops[k]? = some o) (h : gsk M N ops [g] [o] = true) : GS (fun g j => ∃ o, ops[j]? = some o /\ GOk P N mi ops g o) [g] [k] := by
 have hg := gsk_ok (P := P) (ops := ops) (k := k) hM (fun i o' hi => by
  cases i with
  | zero =>
   have : o = o' := by simpa using hi
   subst this
   exact ho
  | succ i => simp at hi) h
 exact hg
theorem nm {l : List G} {j : Nat} (h : (dsts l).contains j = false) : j ∉ dsts l := by
 intro hm
 rw [List.contains_eq_mem] at h
 simp [hm] at h
end
namespace T
open Go Go.Proofs Go.Proofs.YtgaghaggiblabaaGreatDoor Go.Proofs.YtgaghaggiblabaaGreatDoor.Ev
set_option maxRecDepth 100000
variable {X : Nat -> AV} {NN : Nat -> Int} {hC : HC NN}
theorem it237 (hty : TyOk (QX X NN hC)) (hX : XsOk (QX X NN hC) (256, 254, 255)) {J : Nat -> Option TypeInfo} (hJ : (QX X NN hC).info? = J) (hn : (QX X NN hC).types.size = 568)
  (hk : ∀ {N : Nat} {is : List G} {os : List Oper} {ops : Array Oper}, gsk (mikJ (tyJ (QX X NN hC) Tryz.types.toList 568) 568 (shk (QX X NN hC)) (256, 254, 255)) N ops is os = true -> gsk (mikJ J 568 (shk (QX X NN hC)) (256, 254, 255)) N ops is os = true) :
  ItOk (QX X NN hC) 237 (i2370 ++ [.o 8 (.ln 0 (.t 7)), .o 9 (.mv (.c (.int .i64 0)))]) i2372 (.o 13 (.mv (.t 0)) :: i2373) 8 20 := by
 have hM : ∀ i o, mikJ J 568 (shk (QX X NN hC)) (256, 254, 255) i o = true -> mik (QX X NN hC) (256, 254, 255) i o = true := by
  intro i o hm
  rw [<- hJ, <- hn, mikJ_eq] at hm
  exact hm
 refine it_ok (cnd := 10) (ty := 13) (c1 := 21) (c2 := 22) (c5 := 23) hty hX Tryz.func237 (by kernel_rfl) rfl rfl (by exact Nat.le_of_ble_eq_true (by kernel_rfl)) (by decide) ?_
 refine ⟨gs_of hM (hk ?_), gs_of hM (hk ?_), gs_of hM (hk ?_), gs_mid (m := 7) hM ?_ ?_ (hk ?_), by exact Nat.le_of_ble_eq_true (by kernel_rfl), ⟨_, rfl, rfl, rfl, rfl⟩, ⟨_, _, rfl, rfl, rfl, rfl⟩, gs_one hM rfl (hk ?_), gs_of hM (hk ?_), ⟨nm ?_, nm ?_⟩, ⟨nm ?_, nm ?_, nm ?_⟩, ⟨nm ?_, nm ?_, nm ?_⟩, by decide, ⟨by exact Nat.le_of_ble_eq_true (by kernel_rfl), by exact Nat.le_of_ble_eq_true (by kernel_rfl)⟩⟩
 all_goals kernel_rfl
theorem it240 (hty : TyOk (QX X NN hC)) (hX : XsOk (QX X NN hC) (256, 254, 255)) {J : Nat -> Option TypeInfo} (hJ : (QX X NN hC).info? = J) (hn : (QX X NN hC).types.size = 568)
  (hk : ∀ {N : Nat} {is : List G} {os : List Oper} {ops : Array Oper}, gsk (mikJ (tyJ (QX X NN hC) Tryz.types.toList 568) 568 (shk (QX X NN hC)) (256, 254, 255)) N ops is os = true -> gsk (mikJ J 568 (shk (QX X NN hC)) (256, 254, 255)) N ops is os = true) :
  ItOk (QX X NN hC) 240 (i2400 ++ [.o 7 (.ln 0 (.t 6)), .o 8 (.mv (.c (.int .i64 0)))]) i2402 (.o 12 (.mv (.t 0)) :: i2403) 7 22 := by
 have hM : ∀ i o, mikJ J 568 (shk (QX X NN hC)) (256, 254, 255) i o = true -> mik (QX X NN hC) (256, 254, 255) i o = true := by
  intro i o hm
  rw [<- hJ, <- hn, mikJ_eq] at hm
  exact hm
 refine it_ok (cnd := 9) (ty := 12) (c1 := 23) (c2 := 24) (c5 := 25) hty hX Tryz.func240 (by kernel_rfl) rfl rfl (by exact Nat.le_of_ble_eq_true (by kernel_rfl)) (by decide) ?_
 refine ⟨gs_of hM (hk ?_), gs_of hM (hk ?_), gs_of hM (hk ?_), gs_mid (m := 10) hM ?_ ?_ (hk ?_), by exact Nat.le_of_ble_eq_true (by kernel_rfl), ⟨_, rfl, rfl, rfl, rfl⟩, ⟨_, _, rfl, rfl, rfl, rfl⟩, gs_one hM rfl (hk ?_), gs_of hM (hk ?_), ⟨nm ?_, nm ?_⟩, ⟨nm ?_, nm ?_, nm ?_⟩, ⟨nm ?_, nm ?_, nm ?_⟩, by decide, ⟨by exact Nat.le_of_ble_eq_true (by kernel_rfl), by exact Nat.le_of_ble_eq_true (by kernel_rfl)⟩⟩
 all_goals kernel_rfl
theorem snd89 (hty : TyOk (QX X NN hC)) (hmx : (QX X NN hC).follows .mixedOrders = true) (hX : XsOk (QX X NN hC) (256, 254, 255)) {J : Nat -> Option TypeInfo} (hJ : (QX X NN hC).info? = J) (hn : (QX X NN hC).types.size = 568)
  (hk : ∀ {c : C} {cd : Code}, mck (mikJ (tyJ (QX X NN hC) Tryz.types.toList 568) 568 (shk (QX X NN hC)) (256, 254, 255)) 80 15273904097154677591487 cd c = true -> mck (mikJ J 568 (shk (QX X NN hC)) (256, 254, 255)) 80 15273904097154677591487 cd c = true)
  (hk' : ∀ {N : Nat} {is : List G} {os : List Oper} {ops : Array Oper}, gsk (mikJ (tyJ (QX X NN hC) Tryz.types.toList 568) 568 (shk (QX X NN hC)) (256, 254, 255)) N ops is os = true -> gsk (mikJ J 568 (shk (QX X NN hC)) (256, 254, 255)) N ops is os = true) : Snd (QX X NN hC) 89 f89' := by
 refine ⟨⟨_, Tryz.func89, by kernel_rfl, by kernel_rfl⟩, ?_⟩
 intro rec hrec hfn av wm s r vs h hi hw hv
 have key := fun {ds : List Deferred} {c : C} {cd : Code} (h : mck (mikJ (tyJ (QX X NN hC) Tryz.types.toList 568) 568 (shk (QX X NN hC)) (256, 254, 255)) 80 15273904097154677591487 cd c = true) => CodeW.mck hty hmx hX hJ hn hrec hfn (N := ⟨80, ds⟩) (hk h)
 have keyM := fun {c : C} {cd : Code} (h : mck (mikJ (tyJ (QX X NN hC) Tryz.types.toList 568) 568 (shk (QX X NN hC)) (256, 254, 255)) 80 15273904097154677591487 cd c = true) => CodeM.of (fun ds => key (ds := ds) h)
 refine body_okM hty Tryz.func89 (V := fun i => tb 15273904097154677591487 i = true) (c := .seq _ (.seq _ (.seq _ (.seq _ (.seq _ (.seq _ (.seq (.seq _ (.block _ (.loop (.seq _ (.seq _ (.seq (.block _ (.seq _ (.seq _ (.block _ (.rangeFunc (.tmp 72) #[73] _ _))))) _)))))) _))))))) rfl (by exact Nat.le_of_ble_eq_true (by kernel_rfl)) (parok_ok (np := 1) (by kernel_rfl)) (show All2 (fun r f => rvm (QX X NN hC) r f = true) [Rv.t 2] [ResultVar.tmp 2] from .cons rfl .nil) ?_ h hi hw hv
 refine (keyM ?_).seq ((keyM ?_).seq ((keyM ?_).seq ((keyM ?_).seq ((keyM ?_).seq ((keyM ?_).seq (CodeM.seq (CodeM.seq (keyM ?_) (CodeM.block (CodeM.loop (CodeM.seq (keyM ?_) (CodeM.seq (keyM ?_) (CodeM.seq (CodeM.block (CodeM.seq (keyM ?_) (CodeM.seq (keyM ?_) (CodeM.block (rf_ok hrec hfn (it237 hty hX hJ hn hk') (it240 hty hX hJ hn hk') (key (ds := []) ?_) (key (ds := []) ?_) ?_ ?_))))) (keyM ?_))))))) (keyM ?_)))))))
 all_goals first | kernel_rfl | exact Nat.le_of_ble_eq_true (by kernel_rfl)
end T
end Go.Proofs.YtgaghaggiblabaaGreatDoor.Ev
