/- TopContend and the reader of numbers as the evaluator has them; the reader evaluated. No condition. -/
import Derived.Test.YtgaghaggiblabaaGreatDoorFna
import Derived.Test.YtgaghaggiblabaaGreatDoorSym
import Derived.Test.YtgaghaggiblabaaGreatDoorFin
set_option linter.all false
namespace Go.Proofs.YtgaghaggiblabaaGreatDoor.Ev.T
open Go
noncomputable def r21_0 : C := .rg [.o 2 (.mv (.c (.int .i64 0)))] [2]
noncomputable def r21_1 : C := .dr [.p none (some 3) (.mv (.t 0)), .p none (some 4) (.nc (.t 3)), .p none (some 5) (.fa 85 (.t 4) 1 0), .a none (some 6) false false [] (.ld (.t 5)), .p none (some 7) (.mv (.t 0)), .p none (some 8) (.nc (.t 7)), .p none (some 9) (.fa 85 (.t 8) 0 0), .a none (some 10) false false [] (.ld (.t 9)), .p none (some 11) (.ln 0 (.t 10)), .p none (some 12) (.igeq (.t 6) (.t 11))] [12]
noncomputable def r21_2 : C := .rg [.o 13 (.mv (.t 0)), .o 14 (.nc (.t 13)), .o 15 (.fa 85 (.t 14) 1 0), .o 16 (.ld (.t 15)), .o 17 (.iadd (.t 16) (.c (.int .i64 1))), .o 18 (.nc (.t 13)), .o 19 (.fa 85 (.t 18) 1 0), .n (.st (.t 19) (.t 17))] []
noncomputable def r21_3 : C := .dr [.p none (some 20) (.mv (.t 0)), .p none (some 21) (.nc (.t 20)), .p none (some 22) (.fa 85 (.t 21) 0 0), .a none (some 23) false false [] (.ld (.t 22)), .p none (some 24) (.mv (.t 0)), .p none (some 25) (.nc (.t 24)), .p none (some 26) (.fa 85 (.t 25) 1 0), .a none (some 27) false false [] (.ld (.t 26)), .p none (some 28) (.isub (.t 27) (.c (.int .i64 1))), .p none (some 29) (.ia 0 0 0 (.t 23) (.t 28)), .a none (some 30) false false [] (.ld (.t 29)), .p none (some 2) (.mv (.t 30))] [2]
noncomputable def r11_0 : C := .rg [.o 2 (.mv (.c (.bool false)))] [2]
noncomputable def r11_1 : C := .dr [.p none (some 3) (.mv (.t 0)), .p none (some 4) (.nc (.t 3)), .p none (some 5) (.fa 85 (.t 4) 1 0), .a none (some 6) false false [] (.ld (.t 5)), .p none (some 7) (.mv (.t 0)), .p none (some 8) (.nc (.t 7)), .p none (some 9) (.fa 85 (.t 8) 0 0), .a none (some 10) false false [] (.ld (.t 9)), .p none (some 11) (.ln 0 (.t 10)), .p none (some 12) (.ilss (.t 6) (.t 11)), .p none (some 2) (.mv (.t 12))] [2]
noncomputable def r10_0 : C := .rg [.o 4 (.mv (.c (.int .i64 0)))] [4]
noncomputable def r10_1 : C := .rg [.o 6 (.mv (.t 1)), .o 7 (.ilss (.t 6) (.c (.int .i64 1)))] [7]
noncomputable def r10_2 : C := .rg [.o 8 (.mv (.t 0)), .o 9 (.ca 21 [(.t 8)]), .o 10 (.mv (.t 1)), .o 11 (.irem (.t 9) (.t 10)), .o 5 (.mv (.t 11))] [5]
noncomputable def r10_3 : C := .rg [.o 12 (.mv (.t 5)), .o 13 (.ilss (.t 12) (.c (.int .i64 0)))] [13]
noncomputable def r10_4 : C := .rg [.o 14 (.mv (.t 5)), .o 15 (.mv (.t 1)), .o 16 (.iadd (.t 14) (.t 15)), .o 5 (.mv (.t 16))] [5]
noncomputable def r10_5 : C := .rg [.o 17 (.mv (.t 5)), .o 4 (.mv (.t 17))] [4]
noncomputable def r5_0 : C := .rg [.o 6 (.mv (.c (.int .i64 0)))] [6]
noncomputable def r5_1 : C := .rg [.o 7 (.mv (.t 1)), .o 8 (.mv (.t 0)), .o 9 (.mv (.t 2)), .o 10 (.mv (.t 1)), .o 11 (.isub (.t 9) (.t 10)), .o 12 (.iadd (.t 11) (.c (.int .i64 1))), .o 13 (.ca 10 [(.t 8), (.t 12)]), .o 14 (.iadd (.t 7) (.t 13)), .o 6 (.mv (.t 14))] [6]
noncomputable def r4_0 : C := .rg [.o 2 (.mv (.c .nilp))] [2]
noncomputable def r4_1 : C := .rg [.o 3 (.mv (.t 0)), .o 4 (.ln 0 (.t 3)), .o 5 (.igtr (.t 4) (.c (.int .i64 4000)))] [5]
noncomputable def r4_2 : C := .rg [.o 6 (.mv (.t 0)), .o 7 (.sl 0 0 (.t 6) none (some (.c (.int .i64 4000))) none), .o 0 (.mv (.t 7))] [0]
noncomputable def r4_3 : C := .rg [.o 8 (.mv (.t 0)), .o 9 (.bl z84 [(0, (.t 8))]), .o 10 (.bx (.t 9)), .o 2 (.mv (.t 10))] [2]
noncomputable def r3_0 : C := .rg [.o 2 (.mv (.c (.bool false)))] [2]
noncomputable def r3_1 : C := .rg [.o 19 (.mv (.t 0)), .o 20 (.ca 4 [(.t 19)]), .o 3 (.mv (.t 20))] [3]
noncomputable def r3_2 : C := .rg [.o 21 (.mv (.t 3)), .o 22 (.ca 5 [(.t 21), (.c (.int .i64 1)), (.c (.int .i64 3))]), .o 23 (.bl z27 [(0, (.c (.int .i64 3))), (1, (.t 22)), (2, (.c (.int .i64 6))), (3, (.c (.int .i64 2))), (4, (.c (.int .i64 1))), (6, (.c (.int .i64 1)))]), .o 4 (.al z27), .n (.sa 27 (.t 4) (.t 23))] [4]
noncomputable def r3_3 : C := .rg [.o 25 (.la 27 (.t 4)), .o 26 (.ca 6 [(.t 25)]), .o 24 (.mv (.t 26)), .o 27 (.ex (.t 24) 0), .o 28 (.ex (.t 24) 1), .o 5 (.al z44), .n (.sa 44 (.t 5) (.t 27)), .o 6 (.mv (.t 28))] [5, 6]
noncomputable def r3_4 : C := .rg [.o 29 (.mv (.t 6)), .o 30 (.ne .i (.t 29) (.c (.int .i64 0))), .o 31 (.mv (.t 30)), .g 31 false 32 (.la 44 (.t 5)), .g 31 false 33 (.la 27 (.t 4)), .g 31 false 34 (.ca 7 [(.t 32), (.t 33)]), .g 31 false 35 (.nt (.t 34)), .o 36 (.pk (.t 31) (.c (.bool true)) (.t 35))] [36]
noncomputable def r3_5 : C := .rg [.o 37 (.mv (.t 3)), .o 38 (.ca 5 [(.t 37), (.c (.int .i64 1)), (.c (.int .i64 6))]), .o 7 (.mv (.t 38))] [7]
noncomputable def r3_6 : C := .rg [.o 8 (.mv (.c (.int .i64 0)))] [8]
noncomputable def r3_7 : C := .rg [.o 39 (.mv (.t 8)), .o 40 (.mv (.t 7)), .o 41 (.ilss (.t 39) (.t 40))] [41]
noncomputable def r3_8 : C := .rg [.o 45 (.la 44 (.t 5)), .o 46 (.bs (.str []) 1 [(0, (.c (.str [109])))]), .z 46, .o 47 (.bl z53 [(0, (.c (.int .i64 1))), (6, (.t 46))]), .o 48 (.ca 8 [(.t 45), (.t 47)]), .o 44 (.mv (.t 48)), .o 49 (.ex (.t 44) 0), .o 50 (.ex (.t 44) 1), .o 51 (.ex (.t 44) 2), .n (.sa 44 (.t 5) (.t 49)), .o 6 (.mv (.t 51))] [6]
noncomputable def r3_9 : C := .rg [.o 52 (.mv (.t 6)), .o 53 (.ne .i (.t 52) (.c (.int .i64 0)))] [53]
noncomputable def r3_10 : C := .rg [.o 42 (.mv (.t 8)), .o 43 (.iadd (.t 42) (.c (.int .i64 1))), .o 8 (.mv (.t 43))] [8]
noncomputable def r3_11 : C := .rg [.o 55 (.la 44 (.t 5)), .o 56 (.ca 9 [(.t 55)]), .o 54 (.mv (.t 56)), .o 57 (.ex (.t 54) 0), .o 58 (.ex (.t 54) 1), .o 59 (.ex (.t 54) 2), .n (.sa 44 (.t 5) (.t 57)), .o 6 (.mv (.t 59))] [6]
noncomputable def r3_12 : C := .rg [.o 60 (.mv (.t 6)), .o 61 (.ne .i (.t 60) (.c (.int .i64 0))), .o 62 (.mv (.t 61)), .g 62 false 63 (.la 44 (.t 5)), .g 62 false 64 (.la 27 (.t 4)), .g 62 false 65 (.ca 7 [(.t 63), (.t 64)]), .g 62 false 66 (.nt (.t 65)), .o 67 (.pk (.t 62) (.c (.bool true)) (.t 66))] [67]
noncomputable def r3_13 : C := .rg [.o 9 (.mv (.c (.int .i64 0)))] [9]
noncomputable def r3_14 : C := .rg [.o 68 (.mv (.t 9)), .o 69 (.mv (.t 7)), .o 70 (.ilss (.t 68) (.t 69))] [70]
noncomputable def r3_15 : C := .dr [.k none (some 74) false [(.t 5)] [] (.la 44 (.t 5)), .p none (some 75) (.mv (.t 3)), .k none (some 76) true [(.t 75)] [(.t 5)] (.ca 10 [(.t 75), (.c (.int .i64 3))]), .p none (some 77) (.bl z53 [(0, (.c (.int .i64 2))), (1, (.t 76)), (2, (.c (.int .i64 1))), (3, (.c (.int .i64 50)))]), .a none (some 78) false false [] (.ca 8 [(.t 74), (.t 77)]), .p none (some 73) (.mv (.t 78)), .p none (some 79) (.ex (.t 73) 0), .p none (some 80) (.ex (.t 73) 1), .p none (some 81) (.ex (.t 73) 2), .a none none true true [] (.sa 44 (.t 5) (.t 79)), .p none (some 6) (.mv (.t 81))] [6]
noncomputable def r3_16 : C := .rg [.o 82 (.mv (.t 6)), .o 83 (.ne .i (.t 82) (.c (.int .i64 0)))] [83]
noncomputable def r3_17 : C := .rg [.o 71 (.mv (.t 9)), .o 72 (.iadd (.t 71) (.c (.int .i64 1))), .o 9 (.mv (.t 72))] [9]
noncomputable def r3_18 : C := .rg [.o 10 (.mv (.c (.int .i64 0)))] [10]
noncomputable def r3_19 : C := .rg [.o 84 (.mv (.t 10)), .o 85 (.ilss (.t 84) (.c (.int .i64 150))), .o 86 (.mv (.t 85)), .g 86 true 87 (.mv (.t 3)), .g 86 true 88 (.ca 11 [(.t 87)]), .o 89 (.pk (.t 86) (.t 88) (.c (.bool false)))] [89]
noncomputable def r3_20 : C := .rg [.o 92 (.la 44 (.t 5)), .o 93 (.ca 12 [(.t 92)]), .o 94 (.ln 0 (.t 93)), .o 11 (.mv (.t 94))] [11]
noncomputable def r3_21 : C := .rg [.o 95 (.mv (.t 11)), .o 96 (.eq .i (.t 95) (.c (.int .i64 0)))] [96]
noncomputable def r3_22 : C := .dr [.k none (some 98) false [(.t 5)] [] (.la 44 (.t 5)), .p none (some 99) (.mv (.t 3)), .p none (some 100) (.mv (.t 11)), .k none (some 101) true [(.t 99)] [(.t 5)] (.ca 10 [(.t 99), (.t 100)]), .a none (some 102) false false [] (.ca 13 [(.t 98), (.t 101)]), .p none (some 97) (.mv (.t 102)), .p none (some 103) (.ex (.t 97) 0), .p none (some 104) (.ex (.t 97) 1), .a none none true true [] (.sa 44 (.t 5) (.t 103)), .p none (some 6) (.mv (.t 104))] [6]
noncomputable def r3_23 : C := .rg [.o 105 (.mv (.t 6)), .o 106 (.ne .i (.t 105) (.c (.int .i64 0))), .o 107 (.mv (.t 106)), .g 107 false 108 (.la 44 (.t 5)), .g 107 false 109 (.la 27 (.t 4)), .g 107 false 110 (.ca 7 [(.t 108), (.t 109)]), .g 107 false 111 (.nt (.t 110)), .o 112 (.pk (.t 107) (.c (.bool true)) (.t 111))] [112]
noncomputable def r3_24 : C := .rg [.o 90 (.mv (.t 10)), .o 91 (.iadd (.t 90) (.c (.int .i64 1))), .o 10 (.mv (.t 91))] [10]
noncomputable def r3_25 : C := .rg [.o 114 (.la 44 (.t 5)), .o 115 (.ca 9 [(.t 114)]), .o 113 (.mv (.t 115)), .o 116 (.ex (.t 113) 0), .o 117 (.ex (.t 113) 1), .o 118 (.ex (.t 113) 2), .n (.sa 44 (.t 5) (.t 116)), .o 6 (.mv (.t 118))] [6]
noncomputable def r3_26 : C := .rg [.o 119 (.mv (.t 6)), .o 120 (.ne .i (.t 119) (.c (.int .i64 0))), .o 121 (.mv (.t 120)), .g 121 false 122 (.la 44 (.t 5)), .g 121 false 123 (.la 27 (.t 4)), .g 121 false 124 (.ca 7 [(.t 122), (.t 123)]), .g 121 false 125 (.nt (.t 124)), .o 126 (.pk (.t 121) (.c (.bool true)) (.t 125)), .o 127 (.mv (.t 126)), .g 127 false 128 (.fa 45 (.t 5) 2 0), .g 127 false 129 (.ld (.t 128)), .g 127 false 130 (.ln 0 (.t 129)), .g 127 false 131 (.mv (.t 7)), .g 127 false 132 (.imul (.c (.int .i64 2)) (.t 131)), .g 127 false 133 (.ne .i (.t 130) (.t 132)), .o 134 (.pk (.t 127) (.c (.bool true)) (.t 133))] [134]
noncomputable def r3_27 : C := .rg [.o 12 (.al z59)] [12]
noncomputable def r3_28 : C := .rg [.o 13 (.mv (.c (.int .i64 0)))] [13]
noncomputable def r3_29 : C := .rg [.o 135 (.mv (.t 7)), .o 14 (.mv (.t 135))] [14]
noncomputable def r3_30 : C := .rg [.o 136 (.mv (.t 14)), .o 137 (.mv (.t 7)), .o 138 (.imul (.c (.int .i64 2)) (.t 137)), .o 139 (.ilss (.t 136) (.t 138))] [139]
noncomputable def r3_31 : C := .rg [.o 142 (.fa 45 (.t 5) 2 0), .o 143 (.ld (.t 142)), .o 144 (.mv (.t 14)), .o 145 (.ia 0 77 0 (.t 143) (.t 144)), .o 146 (.fa 77 (.t 145) 7 0), .o 147 (.ld (.t 146)), .o 15 (.mv (.t 147))] [15]
noncomputable def r3_32 : C := .rg [.o 148 (.mv (.t 15)), .o 149 (.ln 0 (.t 148)), .o 150 (.ne .i (.t 149) (.c (.int .i64 1))), .o 151 (.mv (.t 150)), .g 151 false 152 (.mv (.t 15)), .g 151 false 153 (.ia 0 79 0 (.t 152) (.c (.int .i64 0))), .g 151 false 154 (.fa 79 (.t 153) 2 0), .g 151 false 155 (.ld (.t 154)), .g 151 false 156 (.ln 0 (.t 155)), .g 151 false 157 (.igtr (.t 156) (.c (.int .i64 1))), .o 158 (.pk (.t 151) (.c (.bool true)) (.t 157))] [158]
noncomputable def r3_33 : C := .rg [.o 16 (.mv (.c (.int .i64 0)))] [16]
noncomputable def r3_34 : C := .rg [.o 159 (.mv (.t 16)), .o 160 (.mv (.t 15)), .o 161 (.ia 0 79 0 (.t 160) (.c (.int .i64 0))), .o 162 (.fa 79 (.t 161) 2 0), .o 163 (.ld (.t 162)), .o 164 (.ln 0 (.t 163)), .o 165 (.ilss (.t 159) (.t 164))] [165]
noncomputable def r3_35 : C := .rg [.o 169 (.mv (.t 15)), .o 170 (.ia 0 79 0 (.t 169) (.c (.int .i64 0))), .o 171 (.fa 79 (.t 170) 2 0), .o 172 (.ld (.t 171)), .o 173 (.mv (.t 16)), .o 174 (.ia 0 0 0 (.t 172) (.t 173)), .o 175 (.ld (.t 174)), .o 176 (.ca 14 [(.t 175)]), .o 168 (.mv (.t 176)), .o 177 (.ex (.t 168) 0), .o 178 (.ex (.t 168) 1), .o 17 (.al z74), .n (.sa 74 (.t 17) (.t 177)), .o 18 (.mv (.t 178))] [17, 18]
noncomputable def r3_36 : C := .rg [.o 179 (.mv (.t 18)), .o 180 (.ne .i (.t 179) (.c (.int .i64 0))), .o 181 (.mv (.t 180)), .g 181 false 182 (.fa 75 (.t 17) 0 0), .g 181 false 183 (.ld (.t 182)), .g 181 false 184 (.ilss (.t 183) (.c (.int .i64 1))), .o 185 (.pk (.t 181) (.c (.bool true)) (.t 184)), .o 186 (.mv (.t 185)), .g 186 false 187 (.fa 75 (.t 17) 0 0), .g 186 false 188 (.ld (.t 187)), .g 186 false 189 (.mv (.t 7)), .g 186 false 190 (.igtr (.t 188) (.t 189)), .o 191 (.pk (.t 186) (.c (.bool true)) (.t 190)), .o 192 (.mv (.t 191)), .g 192 false 193 (.fa 75 (.t 17) 0 0), .g 192 false 194 (.ld (.t 193)), .g 192 false 195 (.ia 60 0 10 (.t 12) (.t 194)), .g 192 false 196 (.ld (.t 195)), .o 197 (.pk (.t 192) (.c (.bool true)) (.t 196))] [197]
noncomputable def r3_37 : C := .rg [.o 198 (.fa 75 (.t 17) 0 0), .o 199 (.ld (.t 198)), .o 200 (.ia 60 0 10 (.t 12) (.t 199)), .n (.st (.t 200) (.c (.bool true)))] []
noncomputable def r3_38 : C := .rg [.o 201 (.mv (.t 13)), .o 202 (.iadd (.t 201) (.c (.int .i64 1))), .o 13 (.mv (.t 202))] [13]
noncomputable def r3_39 : C := .rg [.o 166 (.mv (.t 16)), .o 167 (.iadd (.t 166) (.c (.int .i64 1))), .o 16 (.mv (.t 167))] [16]
noncomputable def r3_40 : C := .rg [.o 140 (.mv (.t 14)), .o 141 (.iadd (.t 140) (.c (.int .i64 1))), .o 14 (.mv (.t 141))] [14]
noncomputable def r3_41 : C := .rg [.o 203 (.mv (.t 13)), .o 204 (.mv (.t 7)), .o 205 (.eq .i (.t 203) (.t 204)), .o 206 (.mv (.t 205)), .g 206 true 207 (.ca 15 []), .o 208 (.pk (.t 206) (.t 207) (.c (.bool false))), .o 2 (.mv (.t 208))] [2]
noncomputable def rX : C := .seq r3_0 .ret
noncomputable def lp0 : C := .seq (.seq r3_7 (.cond (.t 41) .skip (.exit 0))) (.seq (.block 1 (.seq r3_8 (.seq r3_9 (.cond (.t 53) rX .skip)))) r3_10)
noncomputable def lp2 : C := .seq (.seq r3_14 (.cond (.t 70) .skip (.exit 2))) (.seq (.block 3 (.seq r3_15 (.seq r3_16 (.cond (.t 83) rX .skip)))) r3_17)
noncomputable def lp4 : C := .seq (.seq r3_19 (.cond (.t 89) .skip (.exit 4))) (.seq (.block 5 (.seq r3_20 (.seq (.seq r3_21 (.cond (.t 96) (.exit 4) .skip)) (.seq r3_22 (.seq r3_23 (.cond (.t 112) rX .skip)))))) r3_24)
noncomputable def lp8 : C := .seq (.seq r3_34 (.cond (.t 165) .skip (.exit 8))) (.seq (.block 9 (.seq r3_35 (.seq (.seq r3_36 (.cond (.t 197) rX .skip)) (.seq r3_37 r3_38)))) r3_39)
noncomputable def lp6 : C := .seq (.seq r3_30 (.cond (.t 139) .skip (.exit 6))) (.seq (.block 7 (.seq r3_31 (.seq (.seq r3_32 (.cond (.t 158) rX .skip)) (.seq r3_33 (.block 8 (.loop lp8)))))) r3_40)
noncomputable def c3 : C := .seq r3_0 (.seq r3_1 (.seq r3_2 (.seq r3_3 (.seq (.seq r3_4 (.cond (.t 36) rX .skip)) (.seq r3_5 (.seq (.seq r3_6 (.block 0 (.loop lp0))) (.seq (.seq r3_11 (.seq r3_12 (.cond (.t 67) rX .skip))) (.seq (.seq r3_13 (.block 2 (.loop lp2))) (.seq (.seq r3_18 (.block 4 (.loop lp4))) (.seq (.seq r3_25 (.seq r3_26 (.cond (.t 134) rX .skip))) (.seq r3_27 (.seq r3_28 (.seq (.seq r3_29 (.block 6 (.loop lp6))) (.seq r3_41 .ret))))))))))))))
noncomputable def f3 : FD := ⟨c3, [.t 2], .q, 1⟩
noncomputable def f4 : FD := ⟨.seq r4_0 (.seq (.seq r4_1 (.cond (.t 5) r4_2 .skip)) (.seq r4_3 .ret)), [.t 2], .k, 1⟩
noncomputable def f5 : FD := ⟨.seq r5_0 (.seq r5_1 .ret), [.t 6], .w, 3⟩
noncomputable def f10 : FD := ⟨.seq r10_0 (.seq (.seq r10_1 (.cond (.t 7) (.seq r10_0 .ret) .skip)) (.seq r10_2 (.seq (.seq r10_3 (.cond (.t 13) r10_4 .skip)) (.seq r10_5 .ret)))), [.t 4], .w, 2⟩
noncomputable def f11 : FD := ⟨.seq r11_0 (.seq r11_1 .ret), [.t 2], .w, 1⟩
noncomputable def f21 : FD := ⟨.seq r21_0 (.seq (.seq r21_1 (.cond (.t 12) (.seq r21_0 .ret) .skip)) (.seq r21_2 (.seq r21_3 .ret))), [.t 2], .w, 1⟩
end Go.Proofs.YtgaghaggiblabaaGreatDoor.Ev.T
namespace Go.Proofs.YtgaghaggiblabaaGreatDoor.Ev.T
open Go Go.RowKit
def LvOk (v : AV) (L : List Int) : Prop := (v = .sn /\ L = []) \/ ∃ b, v = .sv (L.map fun m => i m) b
section
variable {α : Type}
theorem lvl {v : AV} {L : List Int} (h : LvOk v L) (f : Nat -> Option α) : lnv 0 v f = f L.length := by
 rcases h with ⟨rfl, rfl⟩ | ⟨b, rfl⟩
 ·rfl
 ·show (Bool.rec none (f (len (L.map fun m => i m))) (Nat.beq 0 0) : Option α) = _
  rw [len_eq, List.length_map]; rfl
theorem lvi {v : AV} {L : List Int} (h : LvOk v L) {j : Nat} (hj : j < L.length) (f : AV -> Option α) : idx 0 0 0 v j f = f (.pv (i L[j])) := by
 rcases h with ⟨rfl, rfl⟩ | ⟨b, rfl⟩
 ·cases hj
 ·show nth (L.map fun m => i m) j _ = _
  rw [nth_at (by rw [List.length_map]; exact hj), List.getElem_map]
  rfl
end
section
variable {rec : Rec} {wm n : Nat} {T : Tm} {H : Hp} {Lv : AV} {L : List Int} {pos m r : Nat} {K : Kv}
noncomputable def rdB (Lv : AV) (pos : Nat) : AB := .row [.agg 84 [Lv, i pos]] false
theorem ld_lv (h : LvOk Lv L) {x : O} {b c : Nat} (hx : ev T x = .ptr b 0 [0] c) (hb : hget b H = some (rdB Lv pos)) : evI (.ld x) rec T wm n H K = K Lv n H := by
 show eLd x rec T wm n H K = _
 unfold eLd
 rw [hx, rd_ptr, hk_at hb]
 unfold rdB
 rw [rdb_row, nth0, gp_agg, nth0, gp_nil]
 rcases h with ⟨rfl, _⟩ | ⟨b, rfl⟩ <;> rfl
theorem ld_pos {x : O} {b c : Nat} (hx : ev T x = .ptr b 0 [1] c) (hb : hget b H = some (rdB Lv pos)) : evI (.ld x) rec T wm n H K = K (i pos) n H := by
 show eLd x rec T wm n H K = _
 unfold eLd
 rw [hx, rd_ptr, hk_at hb]
 rfl
theorem snoc_nil {f : Nat} : snoc [] f = [f] := rfl
theorem x21_1 (h0 : lk 0 T = .ptr 0 0 [] 85) (hb : hget 0 H = some (rdB Lv pos)) (hl : LvOk Lv L) : ∃ T', (∀ kn kx kr, code rec wm r21_1 T n H kn kx kr = kn T' (n) (H)) /\ lk 12 T' = .bool (not' (ltI (pos : Int) (L.length : Int))) /\ ∀ q, q ∉ [12] -> lk q T' = lk q T := by
 apply Exists.intro
 refine ⟨fun kn kx kr => ?_, ?_, ?_⟩
 ·unfold r21_1; rw [code_dr]
  rw [ds_p (v := .ptr 0 0 [] 85) (fun f => by simp only [dput_some, dput_none, evI_fa, eFa, gp_nil, gp_agg, nth0, nthS, evI_ia, eIa, evI_igeq, eIgeq, evI_ilss, eIlss, evI_isub, eIsub, evI_ld, eLd, rd_ptr, rd_pv, rdb_row, evI_ln, evI_mv, evI_nc, eNc, ev_t', ev_c', lk_cons, keq64, brec_t, brec_f, and_t, and_f, not_t, not_f, nbeq, nble, decide_true, decide_false, reduceIte, Nat.reduceEqDiff, h0])]
  rw [ds_p (v := .ptr 0 0 [] 85) (fun f => by simp only [dput_some, dput_none, evI_fa, eFa, gp_nil, gp_agg, nth0, nthS, evI_ia, eIa, evI_igeq, eIgeq, evI_ilss, eIlss, evI_isub, eIsub, evI_ld, eLd, rd_ptr, rd_pv, rdb_row, evI_ln, evI_mv, evI_nc, eNc, ev_t', ev_c', lk_cons, keq64, brec_t, brec_f, and_t, and_f, not_t, not_f, nbeq, nble, decide_true, decide_false, reduceIte, Nat.reduceEqDiff, h0])]
  rw [ds_p (v := .ptr 0 0 [1] 0) (fun f => by simp only [dput_some, dput_none, evI_fa, eFa, gp_nil, gp_agg, nth0, nthS, evI_ia, eIa, evI_igeq, eIgeq, evI_ilss, eIlss, evI_isub, eIsub, evI_ld, eLd, rd_ptr, rd_pv, rdb_row, evI_ln, evI_mv, evI_nc, eNc, ev_t', ev_c', lk_cons, keq64, brec_t, brec_f, and_t, and_f, not_t, not_f, nbeq, nble, decide_true, decide_false, reduceIte, Nat.reduceEqDiff, snoc_nil])]
  rw [ds_a (v := i pos) (H' := H) (fun f => ld_pos (b := 0) (c := 0) rfl hb)]
  rw [ds_p (v := .ptr 0 0 [] 85) (fun f => by simp only [dput_some, dput_none, evI_fa, eFa, gp_nil, gp_agg, nth0, nthS, evI_ia, eIa, evI_igeq, eIgeq, evI_ilss, eIlss, evI_isub, eIsub, evI_ld, eLd, rd_ptr, rd_pv, rdb_row, evI_ln, evI_mv, evI_nc, eNc, ev_t', ev_c', lk_cons, keq64, brec_t, brec_f, and_t, and_f, not_t, not_f, nbeq, nble, decide_true, decide_false, reduceIte, Nat.reduceEqDiff, h0])]
  rw [ds_p (v := .ptr 0 0 [] 85) (fun f => by simp only [dput_some, dput_none, evI_fa, eFa, gp_nil, gp_agg, nth0, nthS, evI_ia, eIa, evI_igeq, eIgeq, evI_ilss, eIlss, evI_isub, eIsub, evI_ld, eLd, rd_ptr, rd_pv, rdb_row, evI_ln, evI_mv, evI_nc, eNc, ev_t', ev_c', lk_cons, keq64, brec_t, brec_f, and_t, and_f, not_t, not_f, nbeq, nble, decide_true, decide_false, reduceIte, Nat.reduceEqDiff, h0])]
  rw [ds_p (v := .ptr 0 0 [0] 0) (fun f => by simp only [dput_some, dput_none, evI_fa, eFa, gp_nil, gp_agg, nth0, nthS, evI_ia, eIa, evI_igeq, eIgeq, evI_ilss, eIlss, evI_isub, eIsub, evI_ld, eLd, rd_ptr, rd_pv, rdb_row, evI_ln, evI_mv, evI_nc, eNc, ev_t', ev_c', lk_cons, keq64, brec_t, brec_f, and_t, and_f, not_t, not_f, nbeq, nble, decide_true, decide_false, reduceIte, Nat.reduceEqDiff, snoc_nil])]
  rw [ds_a (v := Lv) (H' := H) (fun f => ld_lv hl (b := 0) (c := 0) rfl hb)]
  rw [ds_p (v := i L.length) (fun f => by simp only [dput_some, dput_none, evI_fa, eFa, gp_nil, gp_agg, nth0, nthS, evI_ia, eIa, evI_igeq, eIgeq, evI_ilss, eIlss, evI_isub, eIsub, evI_ld, eLd, rd_ptr, rd_pv, rdb_row, evI_ln, evI_mv, evI_nc, eNc, ev_t', ev_c', lk_cons, keq64, brec_t, brec_f, and_t, and_f, not_t, not_f, nbeq, nble, decide_true, decide_false, reduceIte, Nat.reduceEqDiff, lvl hl])]
  rw [ds_p (v := .bool (not' (ltI (pos : Int) (L.length : Int)))) (fun f => by simp only [dput_some, dput_none, evI_fa, eFa, gp_nil, gp_agg, nth0, nthS, evI_ia, eIa, evI_igeq, eIgeq, evI_ilss, eIlss, evI_isub, eIsub, evI_ld, eLd, rd_ptr, rd_pv, rdb_row, evI_ln, evI_mv, evI_nc, eNc, ev_t', ev_c', lk_cons, keq64, brec_t, brec_f, and_t, and_f, not_t, not_f, nbeq, nble, decide_true, decide_false, reduceIte, Nat.reduceEqDiff, lk_cons])]
  rw [ds_nil]
 ·rw [lk_outsT, if_pos (by decide)]; rfl
 ·intro q hq; rw [lk_outsT, if_neg hq]
theorem x11_1 (h0 : lk 0 T = .ptr 0 0 [] 85) (hb : hget 0 H = some (rdB Lv pos)) (hl : LvOk Lv L) : ∃ T', (∀ kn kx kr, code rec wm r11_1 T n H kn kx kr = kn T' (n) (H)) /\ lk 2 T' = .bool (ltI (pos : Int) (L.length : Int)) /\ ∀ q, q ∉ [2] -> lk q T' = lk q T := by
 apply Exists.intro
 refine ⟨fun kn kx kr => ?_, ?_, ?_⟩
 ·unfold r11_1; rw [code_dr]
  rw [ds_p (v := .ptr 0 0 [] 85) (fun f => by simp only [dput_some, dput_none, evI_fa, eFa, gp_nil, gp_agg, nth0, nthS, evI_ia, eIa, evI_igeq, eIgeq, evI_ilss, eIlss, evI_isub, eIsub, evI_ld, eLd, rd_ptr, rd_pv, rdb_row, evI_ln, evI_mv, evI_nc, eNc, ev_t', ev_c', lk_cons, keq64, brec_t, brec_f, and_t, and_f, not_t, not_f, nbeq, nble, decide_true, decide_false, reduceIte, Nat.reduceEqDiff, h0])]
  rw [ds_p (v := .ptr 0 0 [] 85) (fun f => by simp only [dput_some, dput_none, evI_fa, eFa, gp_nil, gp_agg, nth0, nthS, evI_ia, eIa, evI_igeq, eIgeq, evI_ilss, eIlss, evI_isub, eIsub, evI_ld, eLd, rd_ptr, rd_pv, rdb_row, evI_ln, evI_mv, evI_nc, eNc, ev_t', ev_c', lk_cons, keq64, brec_t, brec_f, and_t, and_f, not_t, not_f, nbeq, nble, decide_true, decide_false, reduceIte, Nat.reduceEqDiff, h0])]
  rw [ds_p (v := .ptr 0 0 [1] 0) (fun f => by simp only [dput_some, dput_none, evI_fa, eFa, gp_nil, gp_agg, nth0, nthS, evI_ia, eIa, evI_igeq, eIgeq, evI_ilss, eIlss, evI_isub, eIsub, evI_ld, eLd, rd_ptr, rd_pv, rdb_row, evI_ln, evI_mv, evI_nc, eNc, ev_t', ev_c', lk_cons, keq64, brec_t, brec_f, and_t, and_f, not_t, not_f, nbeq, nble, decide_true, decide_false, reduceIte, Nat.reduceEqDiff, snoc_nil])]
  rw [ds_a (v := i pos) (H' := H) (fun f => ld_pos (b := 0) (c := 0) rfl hb)]
  rw [ds_p (v := .ptr 0 0 [] 85) (fun f => by simp only [dput_some, dput_none, evI_fa, eFa, gp_nil, gp_agg, nth0, nthS, evI_ia, eIa, evI_igeq, eIgeq, evI_ilss, eIlss, evI_isub, eIsub, evI_ld, eLd, rd_ptr, rd_pv, rdb_row, evI_ln, evI_mv, evI_nc, eNc, ev_t', ev_c', lk_cons, keq64, brec_t, brec_f, and_t, and_f, not_t, not_f, nbeq, nble, decide_true, decide_false, reduceIte, Nat.reduceEqDiff, h0])]
  rw [ds_p (v := .ptr 0 0 [] 85) (fun f => by simp only [dput_some, dput_none, evI_fa, eFa, gp_nil, gp_agg, nth0, nthS, evI_ia, eIa, evI_igeq, eIgeq, evI_ilss, eIlss, evI_isub, eIsub, evI_ld, eLd, rd_ptr, rd_pv, rdb_row, evI_ln, evI_mv, evI_nc, eNc, ev_t', ev_c', lk_cons, keq64, brec_t, brec_f, and_t, and_f, not_t, not_f, nbeq, nble, decide_true, decide_false, reduceIte, Nat.reduceEqDiff, h0])]
  rw [ds_p (v := .ptr 0 0 [0] 0) (fun f => by simp only [dput_some, dput_none, evI_fa, eFa, gp_nil, gp_agg, nth0, nthS, evI_ia, eIa, evI_igeq, eIgeq, evI_ilss, eIlss, evI_isub, eIsub, evI_ld, eLd, rd_ptr, rd_pv, rdb_row, evI_ln, evI_mv, evI_nc, eNc, ev_t', ev_c', lk_cons, keq64, brec_t, brec_f, and_t, and_f, not_t, not_f, nbeq, nble, decide_true, decide_false, reduceIte, Nat.reduceEqDiff, snoc_nil])]
  rw [ds_a (v := Lv) (H' := H) (fun f => ld_lv hl (b := 0) (c := 0) rfl hb)]
  rw [ds_p (v := i L.length) (fun f => by simp only [dput_some, dput_none, evI_fa, eFa, gp_nil, gp_agg, nth0, nthS, evI_ia, eIa, evI_igeq, eIgeq, evI_ilss, eIlss, evI_isub, eIsub, evI_ld, eLd, rd_ptr, rd_pv, rdb_row, evI_ln, evI_mv, evI_nc, eNc, ev_t', ev_c', lk_cons, keq64, brec_t, brec_f, and_t, and_f, not_t, not_f, nbeq, nble, decide_true, decide_false, reduceIte, Nat.reduceEqDiff, lvl hl])]
  rw [ds_p (v := .bool (ltI (pos : Int) (L.length : Int))) (fun f => by simp only [dput_some, dput_none, evI_fa, eFa, gp_nil, gp_agg, nth0, nthS, evI_ia, eIa, evI_igeq, eIgeq, evI_ilss, eIlss, evI_isub, eIsub, evI_ld, eLd, rd_ptr, rd_pv, rdb_row, evI_ln, evI_mv, evI_nc, eNc, ev_t', ev_c', lk_cons, keq64, brec_t, brec_f, and_t, and_f, not_t, not_f, nbeq, nble, decide_true, decide_false, reduceIte, Nat.reduceEqDiff, lk_cons])]
  rw [ds_p (v := .bool (ltI (pos : Int) (L.length : Int))) (fun f => by simp only [dput_some, dput_none, evI_fa, eFa, gp_nil, gp_agg, nth0, nthS, evI_ia, eIa, evI_igeq, eIgeq, evI_ilss, eIlss, evI_isub, eIsub, evI_ld, eLd, rd_ptr, rd_pv, rdb_row, evI_ln, evI_mv, evI_nc, eNc, ev_t', ev_c', lk_cons, keq64, brec_t, brec_f, and_t, and_f, not_t, not_f, nbeq, nble, decide_true, decide_false, reduceIte, Nat.reduceEqDiff, lk_cons])]
  rw [ds_nil]
 ·rw [lk_outsT, if_pos (by decide)]; rfl
 ·intro q hq; rw [lk_outsT, if_neg hq]
theorem x21_0  : ∃ T', (∀ kn kx kr, code rec wm r21_0 T n H kn kx kr = kn T' (n) (H)) /\ lk 2 T' = i 0 /\ ∀ q, q ∉ [2] -> lk q T' = lk q T := by
 apply Exists.intro
 refine ⟨fun kn kx kr => ?_, ?_, ?_⟩
 ·unfold r21_0; rw [code_rg]
  simp only [↓gs_o', ↓gs_nil', evI_mv, ev_t', ev_c', lk_cons, reduceIte, Nat.reduceEqDiff, brec_t]
  rfl
 ·rw [lk_outsT, if_pos (by decide)]; rfl
 ·intro q hq; rw [lk_outsT, if_neg hq]
theorem x11_0  : ∃ T', (∀ kn kx kr, code rec wm r11_0 T n H kn kx kr = kn T' (n) (H)) /\ lk 2 T' = .bool false /\ ∀ q, q ∉ [2] -> lk q T' = lk q T := by
 apply Exists.intro
 refine ⟨fun kn kx kr => ?_, ?_, ?_⟩
 ·unfold r11_0; rw [code_rg]
  simp only [↓gs_o', ↓gs_nil', evI_mv, ev_t', ev_c', lk_cons, reduceIte, Nat.reduceEqDiff, brec_t]
  rfl
 ·rw [lk_outsT, if_pos (by decide)]; rfl
 ·intro q hq; rw [lk_outsT, if_neg hq]
theorem x21_2 (h0 : lk 0 T = .ptr 0 0 [] 85) (hb : hget 0 H = some (rdB Lv pos)) (hp : pos <= 100000000) (hw : wm <= 0) : ∃ T', (∀ kn kx kr, code rec wm r21_2 T n H kn kx kr = kn T' (n) (hset 0 (rdB Lv (pos + 1)) H)) /\ ∀ q, q ∉ [] -> lk q T' = lk q T := by
 apply Exists.intro
 refine ⟨fun kn kx kr => ?_, ?_⟩
 ·unfold r21_2; rw [code_rg]
  unfold rdB at hb
  simp only [↓gs_o', ↓gs_nil', ↓gs_n', evI_fa, eFa, gp_nil, gp_agg, nth0, nthS, evI_iadd, eIadd, evI_ld, eLd, rd_ptr, rd_pv, rdb_row, evI_mv, evI_nc, eNc, evI_st, eSt, wr_ptr, wrb_row, sp_nil, sp_agg, lset0, ev_t', ev_c', lk_cons, keq64, brec_t, brec_f, and_t, and_f, not_t, not_f, nbeq, nble, decide_true, decide_false, reduceIte, Nat.reduceEqDiff, h0, snoc_nil, hk_at hb, rdB, wrapS hp, like, lc, lsetS, decide_eq_true hw]
  rfl
 ·intro q hq; rw [lk_outsT, if_neg hq]
theorem r64_ge1 {a : Nat} (h : 1 <= a) : ltI (a : Int) 1 = false := by rw [ltI_eq]; exact decide_eq_false (by omega)
theorem r64_n0 {a : Nat} (h : 1 <= a) : beqI (a : Int) (.ofNat 0) = false := by rw [beqI_eq]; exact beq_eq_false_iff_ne.2 (by show (a : Int) ≠ 0; omega)
theorem like_lv {v : AV} {L : List Int} (h : LvOk v L) : like .sn v = true := by
 rcases h with ⟨rfl, _⟩ | ⟨b, rfl⟩ <;> rfl
theorem hc0 (L : List Int) : hc 0 (L.map fun m => i m) = true := by cases L <;> rfl
theorem slc4 {α : Type} {L : List Int} (h : 4000 <= L.length) {b : Bool} {f : AV -> Option α} : slc 0 0 (.sv (L.map fun m => i m) b) .n (.i 4000) .n f = f (.sv ((L.take 4000).map fun m => i m) (and' b (decide (4000 = L.length)))) := by
 show (Bool.rec none (f (.sv (drop (take (L.map fun m => i m) 4000) 0) (and' b (Nat.beq 4000 (len (L.map fun m => i m)))))) (and' (and' (Nat.beq 0 0) (hc 0 (L.map fun m => i m))) (and' (Nat.ble 0 4000) (and' (Nat.ble 4000 (len (L.map fun m => i m))) (and' (Nat.beq 4000 4000) true)))) : Option α) = _
 rw [hc0, len_eq, List.length_map, nble 4000, decide_eq_true h, take_eq, drop_eq, List.drop_zero, List.map_take, nbeq 4000 L.length]
 rfl
theorem isub1 {a : Nat} (h : a <= 100000000) : wrap .i64 (Int.sub ((a + 1 : Nat) : Int) 1) = (a : Int) := by
 rw [wrap64 (m := Int.sub ((a + 1 : Nat) : Int) 1) (by show (0 : Int) <= ((a + 1 : Nat) : Int) - 1; omega) (by show ((a + 1 : Nat) : Int) - 1 <= _; omega)]
 show ((a + 1 : Nat) : Int) - 1 = a
 omega
theorem x21_3 (h0 : lk 0 T = .ptr 0 0 [] 85) (hb : hget 0 H = some (rdB Lv (pos + 1))) (hl : LvOk Lv L) (hp : pos < L.length) (hp4 : pos < L.length -> pos <= 100000000) : ∃ T', (∀ kn kx kr, code rec wm r21_3 T n H kn kx kr = kn T' (n) (H)) /\ lk 2 T' = i L[pos] /\ ∀ q, q ∉ [2] -> lk q T' = lk q T := by
 apply Exists.intro
 refine ⟨fun kn kx kr => ?_, ?_, ?_⟩
 ·unfold r21_3; rw [code_dr]
  rw [ds_p (v := .ptr 0 0 [] 85) (fun f => by simp only [dput_some, dput_none, evI_fa, eFa, gp_nil, gp_agg, nth0, nthS, evI_ia, eIa, evI_igeq, eIgeq, evI_ilss, eIlss, evI_isub, eIsub, evI_ld, eLd, rd_ptr, rd_pv, rdb_row, evI_ln, evI_mv, evI_nc, eNc, ev_t', ev_c', lk_cons, keq64, brec_t, brec_f, and_t, and_f, not_t, not_f, nbeq, nble, decide_true, decide_false, reduceIte, Nat.reduceEqDiff, h0])]
  rw [ds_p (v := .ptr 0 0 [] 85) (fun f => by simp only [dput_some, dput_none, evI_fa, eFa, gp_nil, gp_agg, nth0, nthS, evI_ia, eIa, evI_igeq, eIgeq, evI_ilss, eIlss, evI_isub, eIsub, evI_ld, eLd, rd_ptr, rd_pv, rdb_row, evI_ln, evI_mv, evI_nc, eNc, ev_t', ev_c', lk_cons, keq64, brec_t, brec_f, and_t, and_f, not_t, not_f, nbeq, nble, decide_true, decide_false, reduceIte, Nat.reduceEqDiff, h0])]
  rw [ds_p (v := .ptr 0 0 [0] 0) (fun f => by simp only [dput_some, dput_none, evI_fa, eFa, gp_nil, gp_agg, nth0, nthS, evI_ia, eIa, evI_igeq, eIgeq, evI_ilss, eIlss, evI_isub, eIsub, evI_ld, eLd, rd_ptr, rd_pv, rdb_row, evI_ln, evI_mv, evI_nc, eNc, ev_t', ev_c', lk_cons, keq64, brec_t, brec_f, and_t, and_f, not_t, not_f, nbeq, nble, decide_true, decide_false, reduceIte, Nat.reduceEqDiff, snoc_nil])]
  rw [ds_a (v := Lv) (H' := H) (fun f => ld_lv hl (b := 0) (c := 0) rfl hb)]
  rw [ds_p (v := .ptr 0 0 [] 85) (fun f => by simp only [dput_some, dput_none, evI_fa, eFa, gp_nil, gp_agg, nth0, nthS, evI_ia, eIa, evI_igeq, eIgeq, evI_ilss, eIlss, evI_isub, eIsub, evI_ld, eLd, rd_ptr, rd_pv, rdb_row, evI_ln, evI_mv, evI_nc, eNc, ev_t', ev_c', lk_cons, keq64, brec_t, brec_f, and_t, and_f, not_t, not_f, nbeq, nble, decide_true, decide_false, reduceIte, Nat.reduceEqDiff, h0])]
  rw [ds_p (v := .ptr 0 0 [] 85) (fun f => by simp only [dput_some, dput_none, evI_fa, eFa, gp_nil, gp_agg, nth0, nthS, evI_ia, eIa, evI_igeq, eIgeq, evI_ilss, eIlss, evI_isub, eIsub, evI_ld, eLd, rd_ptr, rd_pv, rdb_row, evI_ln, evI_mv, evI_nc, eNc, ev_t', ev_c', lk_cons, keq64, brec_t, brec_f, and_t, and_f, not_t, not_f, nbeq, nble, decide_true, decide_false, reduceIte, Nat.reduceEqDiff, h0])]
  rw [ds_p (v := .ptr 0 0 [1] 0) (fun f => by simp only [dput_some, dput_none, evI_fa, eFa, gp_nil, gp_agg, nth0, nthS, evI_ia, eIa, evI_igeq, eIgeq, evI_ilss, eIlss, evI_isub, eIsub, evI_ld, eLd, rd_ptr, rd_pv, rdb_row, evI_ln, evI_mv, evI_nc, eNc, ev_t', ev_c', lk_cons, keq64, brec_t, brec_f, and_t, and_f, not_t, not_f, nbeq, nble, decide_true, decide_false, reduceIte, Nat.reduceEqDiff, snoc_nil])]
  rw [ds_a (v := i (pos + 1 : Nat)) (H' := H) (fun f => ld_pos (b := 0) (c := 0) rfl hb)]
  rw [ds_p (v := i pos) (fun f => by simp only [dput_some, dput_none, evI_fa, eFa, gp_nil, gp_agg, nth0, nthS, evI_ia, eIa, evI_igeq, eIgeq, evI_ilss, eIlss, evI_isub, eIsub, evI_ld, eLd, rd_ptr, rd_pv, rdb_row, evI_ln, evI_mv, evI_nc, eNc, ev_t', ev_c', lk_cons, keq64, brec_t, brec_f, and_t, and_f, not_t, not_f, nbeq, nble, decide_true, decide_false, reduceIte, Nat.reduceEqDiff, isub1 (hp4 hp)])]
  rw [ds_p (v := .pv (i L[pos])) (fun f => by simp only [dput_some, dput_none, evI_fa, eFa, gp_nil, gp_agg, nth0, nthS, evI_ia, eIa, evI_igeq, eIgeq, evI_ilss, eIlss, evI_isub, eIsub, evI_ld, eLd, rd_ptr, rd_pv, rdb_row, evI_ln, evI_mv, evI_nc, eNc, ev_t', ev_c', lk_cons, keq64, brec_t, brec_f, and_t, and_f, not_t, not_f, nbeq, nble, decide_true, decide_false, reduceIte, Nat.reduceEqDiff, lvi hl hp])]
  rw [ds_a (v := i L[pos]) (H' := H) (fun f => by simp only [dput_some, dput_none, evI_fa, eFa, gp_nil, gp_agg, nth0, nthS, evI_ia, eIa, evI_igeq, eIgeq, evI_ilss, eIlss, evI_isub, eIsub, evI_ld, eLd, rd_ptr, rd_pv, rdb_row, evI_ln, evI_mv, evI_nc, eNc, ev_t', ev_c', lk_cons, keq64, brec_t, brec_f, and_t, and_f, not_t, not_f, nbeq, nble, decide_true, decide_false, reduceIte, Nat.reduceEqDiff, lk_cons])]
  rw [ds_p (v := i L[pos]) (fun f => by simp only [dput_some, dput_none, evI_fa, eFa, gp_nil, gp_agg, nth0, nthS, evI_ia, eIa, evI_igeq, eIgeq, evI_ilss, eIlss, evI_isub, eIsub, evI_ld, eLd, rd_ptr, rd_pv, rdb_row, evI_ln, evI_mv, evI_nc, eNc, ev_t', ev_c', lk_cons, keq64, brec_t, brec_f, and_t, and_f, not_t, not_f, nbeq, nble, decide_true, decide_false, reduceIte, Nat.reduceEqDiff, lk_cons])]
  rw [ds_nil]
 ·rw [lk_outsT, if_pos (by decide)]; rfl
 ·intro q hq; rw [lk_outsT, if_neg hq]
theorem x10_0  : ∃ T', (∀ kn kx kr, code rec wm r10_0 T n H kn kx kr = kn T' (n) (H)) /\ lk 4 T' = i 0 /\ ∀ q, q ∉ [4] -> lk q T' = lk q T := by
 apply Exists.intro
 refine ⟨fun kn kx kr => ?_, ?_, ?_⟩
 ·unfold r10_0; rw [code_rg]
  simp only [↓gs_o', ↓gs_nil', evI_mv, ev_t', ev_c', lk_cons, reduceIte, Nat.reduceEqDiff, brec_t]
  rfl
 ·rw [lk_outsT, if_pos (by decide)]; rfl
 ·intro q hq; rw [lk_outsT, if_neg hq]
theorem x10_1 (h1 : lk 1 T = i m) (hm : 1 <= m) : ∃ T', (∀ kn kx kr, code rec wm r10_1 T n H kn kx kr = kn T' (n) (H)) /\ lk 7 T' = .bool false /\ ∀ q, q ∉ [7] -> lk q T' = lk q T := by
 apply Exists.intro
 refine ⟨fun kn kx kr => ?_, ?_, ?_⟩
 ·unfold r10_1; rw [code_rg]
  simp only [↓gs_o', ↓gs_nil', evI_ilss, eIlss, evI_mv, ev_t', ev_c', lk_cons, keq64, brec_t, brec_f, and_t, and_f, not_t, not_f, nbeq, nble, decide_true, decide_false, reduceIte, Nat.reduceEqDiff, h1, r64_ge1 hm]
  rfl
 ·rw [lk_outsT, if_pos (by decide)]; rfl
 ·intro q hq; rw [lk_outsT, if_neg hq]
theorem x10_2 (h0 : lk 0 T = .ptr 0 0 [] 85) (h1 : lk 1 T = i m) (hm : 1 <= m) {v : Int} {H' : Hp} (hc : rec 21 [.ptr 0 0 [] 85] wm n H = some (i v, n, H')) : ∃ T', (∀ kn kx kr, code rec wm r10_2 T n H kn kx kr = kn T' (n) (H')) /\ lk 5 T' = i (Int.tmod v m) /\ ∀ q, q ∉ [5] -> lk q T' = lk q T := by
 apply Exists.intro
 refine ⟨fun kn kx kr => ?_, ?_, ?_⟩
 ·unfold r10_2; rw [code_rg]
  simp only [↓gs_o', ↓gs_nil', evI_ca, evs_cons', evs_nil', evI_irem, eIrem, evI_mv, ev_t', ev_c', lk_cons, keq64, brec_t, brec_f, and_t, and_f, not_t, not_f, nbeq, nble, decide_true, decide_false, reduceIte, Nat.reduceEqDiff, h0, h1, call_at hc, r64_n0 hm]
  rfl
 ·rw [lk_outsT, if_pos (by decide)]; rfl
 ·intro q hq; rw [lk_outsT, if_neg hq]
theorem x10_3 {v : Int} (h5 : lk 5 T = i v) : ∃ T', (∀ kn kx kr, code rec wm r10_3 T n H kn kx kr = kn T' (n) (H)) /\ lk 13 T' = .bool (ltI v 0) /\ ∀ q, q ∉ [13] -> lk q T' = lk q T := by
 apply Exists.intro
 refine ⟨fun kn kx kr => ?_, ?_, ?_⟩
 ·unfold r10_3; rw [code_rg]
  simp only [↓gs_o', ↓gs_nil', evI_ilss, eIlss, evI_mv, ev_t', ev_c', lk_cons, keq64, brec_t, brec_f, and_t, and_f, not_t, not_f, nbeq, nble, decide_true, decide_false, reduceIte, Nat.reduceEqDiff, h5]
  rfl
 ·rw [lk_outsT, if_pos (by decide)]; rfl
 ·intro q hq; rw [lk_outsT, if_neg hq]
theorem x10_4 {v : Int} (h5 : lk 5 T = i v) (h1 : lk 1 T = i m) (hw : wrap .i64 (Int.add v m) = r) : ∃ T', (∀ kn kx kr, code rec wm r10_4 T n H kn kx kr = kn T' (n) (H)) /\ lk 5 T' = i r /\ ∀ q, q ∉ [5] -> lk q T' = lk q T := by
 apply Exists.intro
 refine ⟨fun kn kx kr => ?_, ?_, ?_⟩
 ·unfold r10_4; rw [code_rg]
  simp only [↓gs_o', ↓gs_nil', evI_iadd, eIadd, evI_mv, ev_t', ev_c', lk_cons, keq64, brec_t, brec_f, and_t, and_f, not_t, not_f, nbeq, nble, decide_true, decide_false, reduceIte, Nat.reduceEqDiff, h5, h1, hw]
  rfl
 ·rw [lk_outsT, if_pos (by decide)]; rfl
 ·intro q hq; rw [lk_outsT, if_neg hq]
theorem x10_5 (h5 : lk 5 T = i r) : ∃ T', (∀ kn kx kr, code rec wm r10_5 T n H kn kx kr = kn T' (n) (H)) /\ lk 4 T' = i r /\ ∀ q, q ∉ [4] -> lk q T' = lk q T := by
 apply Exists.intro
 refine ⟨fun kn kx kr => ?_, ?_, ?_⟩
 ·unfold r10_5; rw [code_rg]
  simp only [↓gs_o', ↓gs_nil', evI_mv, ev_t', ev_c', lk_cons, reduceIte, Nat.reduceEqDiff, h5]
  rfl
 ·rw [lk_outsT, if_pos (by decide)]; rfl
 ·intro q hq; rw [lk_outsT, if_neg hq]
theorem x5_0  : ∃ T', (∀ kn kx kr, code rec wm r5_0 T n H kn kx kr = kn T' (n) (H)) /\ lk 6 T' = i 0 /\ ∀ q, q ∉ [6] -> lk q T' = lk q T := by
 apply Exists.intro
 refine ⟨fun kn kx kr => ?_, ?_, ?_⟩
 ·unfold r5_0; rw [code_rg]
  simp only [↓gs_o', ↓gs_nil', evI_mv, ev_t', ev_c', lk_cons, reduceIte, Nat.reduceEqDiff, brec_t]
  rfl
 ·rw [lk_outsT, if_pos (by decide)]; rfl
 ·intro q hq; rw [lk_outsT, if_neg hq]
theorem x5_1 (h0 : lk 0 T = .ptr 0 0 [] 85) (h1 : lk 1 T = i 1) (h2 : lk 2 T = i m) (h3 : wrap .i64 (Int.add (wrap .i64 (Int.sub (m : Int) 1)) 1) = m) {H' : Hp} (hc : rec 10 [.ptr 0 0 [] 85, i m] wm n H = some (i r, n, H')) (h4 : wrap .i64 (Int.add 1 (r : Int)) = ((r + 1 : Nat) : Int)) : ∃ T', (∀ kn kx kr, code rec wm r5_1 T n H kn kx kr = kn T' (n) (H')) /\ lk 6 T' = i (r + 1 : Nat) /\ ∀ q, q ∉ [6] -> lk q T' = lk q T := by
 apply Exists.intro
 refine ⟨fun kn kx kr => ?_, ?_, ?_⟩
 ·unfold r5_1; rw [code_rg]
  simp only [↓gs_o', ↓gs_nil', evI_ca, evs_cons', evs_nil', evI_iadd, eIadd, evI_isub, eIsub, evI_mv, ev_t', ev_c', lk_cons, keq64, brec_t, brec_f, and_t, and_f, not_t, not_f, nbeq, nble, decide_true, decide_false, reduceIte, Nat.reduceEqDiff, h0, h1, h2, h3, call_at hc, h4]
  rfl
 ·rw [lk_outsT, if_pos (by decide)]; rfl
 ·intro q hq; rw [lk_outsT, if_neg hq]
theorem x4_0  : ∃ T', (∀ kn kx kr, code rec wm r4_0 T n H kn kx kr = kn T' (n) (H)) /\ lk 2 T' = .nilp /\ ∀ q, q ∉ [2] -> lk q T' = lk q T := by
 apply Exists.intro
 refine ⟨fun kn kx kr => ?_, ?_, ?_⟩
 ·unfold r4_0; rw [code_rg]
  simp only [↓gs_o', ↓gs_nil', evI_mv, ev_t', ev_c', lk_cons, reduceIte, Nat.reduceEqDiff, brec_t]
  rfl
 ·rw [lk_outsT, if_pos (by decide)]; rfl
 ·intro q hq; rw [lk_outsT, if_neg hq]
theorem x4_1 (h0 : lk 0 T = Lv) (hl : LvOk Lv L) : ∃ T', (∀ kn kx kr, code rec wm r4_1 T n H kn kx kr = kn T' (n) (H)) /\ lk 5 T' = .bool (ltI 4000 (L.length : Int)) /\ ∀ q, q ∉ [5] -> lk q T' = lk q T := by
 apply Exists.intro
 refine ⟨fun kn kx kr => ?_, ?_, ?_⟩
 ·unfold r4_1; rw [code_rg]
  simp only [↓gs_o', ↓gs_nil', evI_igtr, eIgtr, evI_ln, evI_mv, ev_t', ev_c', lk_cons, keq64, brec_t, brec_f, and_t, and_f, not_t, not_f, nbeq, nble, decide_true, decide_false, reduceIte, Nat.reduceEqDiff, h0, lvl hl]
  rfl
 ·rw [lk_outsT, if_pos (by decide)]; rfl
 ·intro q hq; rw [lk_outsT, if_neg hq]
theorem x4_2 {b : Bool} (h0 : lk 0 T = .sv (L.map fun m => i m) b) (hL : 4000 <= L.length) : ∃ T', (∀ kn kx kr, code rec wm r4_2 T n H kn kx kr = kn T' (n) (H)) /\ lk 0 T' = .sv ((L.take 4000).map fun m => i m) (and' b (decide (4000 = L.length))) /\ ∀ q, q ∉ [0] -> lk q T' = lk q T := by
 apply Exists.intro
 refine ⟨fun kn kx kr => ?_, ?_, ?_⟩
 ·unfold r4_2; rw [code_rg]
  simp only [↓gs_o', ↓gs_nil', evI_mv, evI_sl, eSl, ev_t', ev_c', lk_cons, keq64, brec_t, brec_f, and_t, and_f, not_t, not_f, nbeq, nble, decide_true, decide_false, reduceIte, Nat.reduceEqDiff, h0, opt, bdv, slc4 hL]
  rfl
 ·rw [lk_outsT, if_pos (by decide)]; rfl
 ·intro q hq; rw [lk_outsT, if_neg hq]
theorem x4_3 (h0 : lk 0 T = Lv) (hl : LvOk Lv L) : ∃ T', (∀ kn kx kr, code rec wm r4_3 T n H kn kx kr = kn T' (n + 1) ((n, rdB Lv 0) :: H)) /\ lk 2 T' = .ptr n 0 [] 85 /\ ∀ q, q ∉ [2] -> lk q T' = lk q T := by
 apply Exists.intro
 refine ⟨fun kn kx kr => ?_, ?_, ?_⟩
 ·unfold r4_3; rw [code_rg]
  simp only [↓gs_o', ↓gs_nil', evI_bl, eBl, nth0, nthS, lset0, evI_bx, eBx, evI_mv, ev_t', ev_c', lk_cons, keq64, brec_t, brec_f, and_t, and_f, not_t, not_f, nbeq, nble, decide_true, decide_false, reduceIte, Nat.reduceEqDiff, h0, z84, build_nil, build_cons, like_lv hl]
  rfl
 ·rw [lk_outsT, if_pos (by decide)]; rfl
 ·intro q hq; rw [lk_outsT, if_neg hq]
end
end Go.Proofs.YtgaghaggiblabaaGreatDoor.Ev.T
namespace Go.Proofs.YtgaghaggiblabaaGreatDoor.Ev.T
open Go Go.RowKit
theorem f21_code : f21 = ⟨.seq r21_0 (.seq (.seq r21_1 (.cond (.t 12) (.seq r21_0 .ret) .skip)) (.seq r21_2 (.seq r21_3 .ret))), [.t 2], .w, 1⟩ := rfl
theorem f11_code : f11 = ⟨.seq r11_0 (.seq r11_1 .ret), [.t 2], .w, 1⟩ := rfl
theorem f10_code : f10 = ⟨.seq r10_0 (.seq (.seq r10_1 (.cond (.t 7) (.seq r10_0 .ret) .skip)) (.seq r10_2 (.seq (.seq r10_3 (.cond (.t 13) r10_4 .skip)) (.seq r10_5 .ret)))), [.t 4], .w, 2⟩ := rfl
theorem f5_code : f5 = ⟨.seq r5_0 (.seq r5_1 .ret), [.t 6], .w, 3⟩ := rfl
theorem f4_code : f4 = ⟨.seq r4_0 (.seq (.seq r4_1 (.cond (.t 5) r4_2 .skip)) (.seq r4_3 .ret)), [.t 2], .k, 1⟩ := rfl
def RdOk (Lv : AV) (L : List Int) (H : Hp) : Prop := ∃ pos, pos <= L.length /\ hget 0 H = some (rdB Lv pos)
section
variable {rec : Rec} {n : Nat} {H : Hp} {Lv : AV} {L : List Int}
theorem next_ok (hl : LvOk Lv L) (h4 : L.length <= 4000) (hH : RdOk Lv L H) : ∃ v H', body rec f21 [.ptr 0 0 [] 85] 0 n H = some (i v, n, H') /\ RdOk Lv L H' /\ ∀ b, b ≠ 0 -> hget b H' = hget b H := by
 obtain ⟨pos, hp, hb⟩ := hH
 have hbody : body rec f21 [.ptr 0 0 [] 85] 0 n H = code rec 0 f21.code [(0, .ptr 0 0 [] 85)] n H (fin .w [.t 2] n H) (fun _ _ _ _ => none) (fin .w [.t 2] n H) := rfl
 obtain ⟨T1, e1, a2, g1⟩ := x21_0 (rec := rec) (wm := 0) (n := n) (T := [(0, .ptr 0 0 [] 85)]) (H := H)
 have k1 : lk 0 T1 = .ptr 0 0 [] 85 := by rw [g1 0 (by decide)]; rfl
 obtain ⟨T2, e2, a12, g2⟩ := x21_1 (rec := rec) (wm := 0) (n := n) (T := T1) (H := H) k1 hb hl
 have k2 : lk 0 T2 = .ptr 0 0 [] 85 := by rw [g2 0 (by decide)]; exact k1
 rcases Nat.lt_or_ge pos L.length with h | h
 ·rw [r64_lt h, not_t] at a12
  obtain ⟨T3, e3, g3⟩ := x21_2 (rec := rec) (wm := 0) (n := n) (T := T2) (H := H) k2 hb (by omega) (Nat.le_refl 0)
  have hb' : hget 0 (hset 0 (rdB Lv (pos + 1)) H) = some (rdB Lv (pos + 1)) := by rw [hget_hset, if_pos rfl, hb]; rfl
  obtain ⟨T4, e4, b2, g4⟩ := x21_3 (rec := rec) (wm := 0) (n := n) (T := T3) (H := hset 0 (rdB Lv (pos + 1)) H) (by rw [g3 0 (by decide)]; exact k2) hb' hl h (fun _ => by omega)
  refine ⟨L[pos], hset 0 (rdB Lv (pos + 1)) H, ?_, ⟨pos + 1, h, hb'⟩, fun b hb => by rw [hget_hset, if_neg hb]⟩
  rw [hbody, f21_code]
  simp only [code_seq, e1, e2, ev_t', code_cf, a12, code_skip, e3, e4, code_ret]
  unfold fin resv
  simp only [b2]
  rfl
 ·rw [r64_ge h, not_f] at a12
  obtain ⟨T3, e3, b2, g3⟩ := x21_0 (rec := rec) (wm := 0) (n := n) (T := T2) (H := H)
  refine ⟨0, H, ?_, ⟨pos, hp, hb⟩, fun b _ => rfl⟩
  rw [hbody, f21_code]
  simp only [code_seq, e1, e2, ev_t', code_ct, a12, e3, code_ret]
  unfold fin resv
  simp only [b2]
  rfl
theorem more_ok (hl : LvOk Lv L) (hH : RdOk Lv L H) : ∃ b, body rec f11 [.ptr 0 0 [] 85] 0 n H = some (.bool b, n, H) := by
 obtain ⟨pos, hp, hb⟩ := hH
 have hbody : body rec f11 [.ptr 0 0 [] 85] 0 n H = code rec 0 f11.code [(0, .ptr 0 0 [] 85)] n H (fin .w [.t 2] n H) (fun _ _ _ _ => none) (fin .w [.t 2] n H) := rfl
 obtain ⟨T1, e1, a2, g1⟩ := x11_0 (rec := rec) (wm := 0) (n := n) (T := [(0, .ptr 0 0 [] 85)]) (H := H)
 have k1 : lk 0 T1 = .ptr 0 0 [] 85 := by rw [g1 0 (by decide)]; rfl
 obtain ⟨T2, e2, b2, g2⟩ := x11_1 (rec := rec) (wm := 0) (n := n) (T := T1) (H := H) k1 hb hl
 refine ⟨ltI (pos : Int) (L.length : Int), ?_⟩
 rw [hbody, f11_code]
 simp only [code_seq, e1, e2, code_ret]
 unfold fin resv
 simp only [b2]
 rfl
theorem n_ok {m : Nat} (hm : 1 <= m) (hm2 : m <= 100000000) {v : Int} {H' : Hp} (hc : rec 21 [.ptr 0 0 [] 85] 0 n H = some (i v, n, H')) : ∃ r : Nat, r < m /\ body rec f10 [.ptr 0 0 [] 85, i m] 0 n H = some (i r, n, H') := by
 have hbody : body rec f10 [.ptr 0 0 [] 85, i m] 0 n H = code rec 0 f10.code [(0, .ptr 0 0 [] 85), (1, i m)] n H (fin .w [.t 4] n H) (fun _ _ _ _ => none) (fin .w [.t 4] n H) := rfl
 obtain ⟨T1, e1, a4, g1⟩ := x10_0 (rec := rec) (wm := 0) (n := n) (T := [(0, .ptr 0 0 [] 85), (1, i m)]) (H := H)
 obtain ⟨T2, e2, a7, g2⟩ := x10_1 (rec := rec) (wm := 0) (n := n) (T := T1) (H := H) (m := m) (by rw [g1 1 (by decide)]; rfl) hm
 obtain ⟨T3, e3, a5, g3⟩ := x10_2 (rec := rec) (wm := 0) (n := n) (T := T2) (H := H) (m := m) (by rw [g2 0 (by decide), g1 0 (by decide)]; rfl) (by rw [g2 1 (by decide), g1 1 (by decide)]; rfl) hm hc
 obtain ⟨T4, e4, a13, g4⟩ := x10_3 (rec := rec) (wm := 0) (n := n) (T := T3) (H := H') a5
 have k5 : lk 5 T4 = i (Int.tmod v m) := by rw [g4 5 (by decide)]; exact a5
 have hlt : Int.tmod v m < m := Int.tmod_lt_of_pos v (by omega)
 have hgt : -(m : Int) < Int.tmod v m := Int.lt_tmod_of_pos v (by omega)
 by_cases hn : Int.tmod v m < 0
 ·rw [ltI_eq, decide_eq_true hn] at a13
  obtain ⟨r, hr⟩ := Int.eq_ofNat_of_zero_le (show 0 <= Int.tmod v m + m by omega)
  have hw : wrap .i64 (Int.add (Int.tmod v m) m) = r := by
   rw [wrap64 (m := Int.add (Int.tmod v m) m) (by show 0 <= Int.tmod v m + m; omega) (by show Int.tmod v m + m <= _; omega)]
   exact hr
  obtain ⟨T5, e5, b5, g5⟩ := x10_4 (rec := rec) (wm := 0) (n := n) (T := T4) (H := H') k5 (by rw [g4 1 (by decide), g3 1 (by decide), g2 1 (by decide), g1 1 (by decide)]; rfl) hw
  obtain ⟨T6, e6, b4, g6⟩ := x10_5 (rec := rec) (wm := 0) (n := n) (T := T5) (H := H') b5
  refine ⟨r, by omega, ?_⟩
  rw [hbody, f10_code]
  simp only [code_seq, e1, e2, ev_t', code_cf, a7, code_skip, e3, e4, code_ct, a13, e5, e6, code_ret]
  unfold fin resv
  simp only [b4]
  rfl
 ·rw [ltI_eq, decide_eq_false hn] at a13
  obtain ⟨r, hr⟩ := Int.eq_ofNat_of_zero_le (show 0 <= Int.tmod v m by omega)
  rw [hr] at k5
  obtain ⟨T6, e6, b4, g6⟩ := x10_5 (rec := rec) (wm := 0) (n := n) (T := T4) (H := H') (r := r) k5
  refine ⟨r, by omega, ?_⟩
  rw [hbody, f10_code]
  simp only [code_seq, e1, e2, ev_t', code_cf, a7, code_skip, e3, e4, a13, e6, code_ret]
  unfold fin resv
  simp only [b4]
  rfl
theorem range_ok {m : Nat} (hm : 1 <= m) (hm2 : m <= 1000) {r : Nat} (hr : r < m) {H' : Hp} (hc : rec 10 [.ptr 0 0 [] 85, i m] 0 n H = some (i r, n, H')) : body rec f5 [.ptr 0 0 [] 85, i 1, i m] 0 n H = some (i (r + 1 : Nat), n, H') := by
 have hbody : body rec f5 [.ptr 0 0 [] 85, i 1, i m] 0 n H = code rec 0 f5.code [(0, .ptr 0 0 [] 85), (1, i 1), (2, i m)] n H (fin .w [.t 6] n H) (fun _ _ _ _ => none) (fin .w [.t 6] n H) := rfl
 obtain ⟨T1, e1, a6, g1⟩ := x5_0 (rec := rec) (wm := 0) (n := n) (T := [(0, .ptr 0 0 [] 85), (1, i 1), (2, i m)]) (H := H)
 have h3 : wrap .i64 (Int.add (wrap .i64 (Int.sub (m : Int) 1)) 1) = m := by
  rw [wrap64 (m := Int.sub (m : Int) 1) (by show 0 <= (m : Int) - 1; omega) (by show (m : Int) - 1 <= _; omega)]
  rw [wrap64 (m := Int.add (Int.sub (m : Int) 1) 1) (by show 0 <= (m : Int) - 1 + 1; omega) (by show (m : Int) - 1 + 1 <= _; omega)]
  show (m : Int) - 1 + 1 = m
  omega
 have h4 : wrap .i64 (Int.add 1 (r : Int)) = ((r + 1 : Nat) : Int) := by
  rw [wrap64 (m := Int.add 1 (r : Int)) (by show 0 <= 1 + (r : Int); omega) (by show 1 + (r : Int) <= _; omega)]
  show 1 + (r : Int) = _
  omega
 obtain ⟨T2, e2, b6, g2⟩ := x5_1 (rec := rec) (wm := 0) (n := n) (T := T1) (H := H) (by rw [g1 0 (by decide)]; rfl) (by rw [g1 1 (by decide)]; rfl) (by rw [g1 2 (by decide)]; rfl) h3 hc h4
 rw [hbody, f5_code]
 simp only [code_seq, e1, e2, code_ret]
 unfold fin resv
 simp only [b6]
 rfl
theorem new_ok (hl : LvOk Lv L) : ∃ Lv' L', LvOk Lv' L' /\ L'.length <= 4000 /\ body rec f4 [Lv] 0 0 [] = some (.ptr 0 0 [] 85, 1, [(0, rdB Lv' 0)]) := by
 have hbody : body rec f4 [Lv] 0 0 [] = code rec 0 f4.code [(0, Lv)] 0 [] (fin .k [.t 2] 0 []) (fun _ _ _ _ => none) (fin .k [.t 2] 0 []) := rfl
 obtain ⟨T1, e1, a2, g1⟩ := x4_0 (rec := rec) (wm := 0) (n := 0) (T := [(0, Lv)]) (H := [])
 have k1 : lk 0 T1 = Lv := by rw [g1 0 (by decide)]; rfl
 obtain ⟨T2, e2, a5, g2⟩ := x4_1 (rec := rec) (wm := 0) (n := 0) (T := T1) (H := []) k1 hl
 have k2 : lk 0 T2 = Lv := by rw [g2 0 (by decide)]; exact k1
 have fini : ∀ (Lv' : AV) (L' : List Int) (T : Tm), lk 2 T = .ptr 0 0 [] 85 -> fin .k [.t 2] 0 [] T 1 [(0, rdB Lv' 0)] = some (.ptr 0 0 [] 85, 1, [(0, rdB Lv' 0)]) := by
  intro Lv' L' T h
  unfold fin resv
  simp only [h]
  rfl
 by_cases h : L.length <= 4000
 ·rw [ltI_eq, decide_eq_false (by omega)] at a5
  obtain ⟨T3, e3, b2, g3⟩ := x4_3 (rec := rec) (wm := 0) (n := 0) (T := T2) (H := []) k2 hl
  refine ⟨Lv, L, hl, h, ?_⟩
  rw [hbody, f4_code]
  simp only [code_seq, e1, e2, ev_t', code_cf, a5, code_skip, e3, code_ret]
  exact fini Lv L T3 b2
 ·rw [ltI_eq, decide_eq_true (by omega)] at a5
  rcases hl with ⟨_, rfl⟩ | ⟨b, rfl⟩
  ·exact absurd (Nat.zero_le _) h
  obtain ⟨T3, e3, b0, g3⟩ := x4_2 (rec := rec) (wm := 0) (n := 0) (T := T2) (H := []) (L := L) k2 (by omega)
  have hl' : LvOk (.sv ((L.take 4000).map fun m => i m) (and' b (decide (4000 = L.length)))) (L.take 4000) := .inr ⟨_, rfl⟩
  obtain ⟨T4, e4, b2, g4⟩ := x4_3 (rec := rec) (wm := 0) (n := 0) (T := T3) (H := []) b0 hl'
  refine ⟨_, _, hl', by rw [List.length_take]; omega, ?_⟩
  rw [hbody, f4_code]
  simp only [code_seq, e1, e2, ev_t', code_ct, a5, e3, e4, code_ret]
  exact fini _ [] T4 b2
end
end Go.Proofs.YtgaghaggiblabaaGreatDoor.Ev.T
