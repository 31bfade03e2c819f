/- TopCycle with numbers for its two remainders. No condition. -/
import Derived.Test.YtinjiaadlkpamaaGreatDoorFnb
import Derived.Test.YtinjiaadlkpamaaGreatDoorEve
import Derived.KernelRfl
namespace Go.Proofs.YtinjiaadlkpamaaGreatDoor.Ev
theorem gs_irem {rec : Rec} {wm s d e : Nat} {L p : Int} {rest : List G} {T : Tm} {n : Nat} {H : Hp} {k : Kt} (hs : lk s T = .int .u8 L) (hp : Int.tmod L 3 = p) :
    gs rec wm (.o d (.mv (.t s)) :: .o e (.irem (.t d) (.c (.int .u8 3))) :: rest) T n H k = gs rec wm (.o d (.mv (.t s)) :: .o e (.mv (.c (.int .u8 p))) :: rest) T n H k := by
  show (match lk d ((d, lk s T) :: T) with | .int k' a => (Bool.rec none (gs rec wm rest ((e, .int k' (Int.tmod a 3)) :: (d, lk s T) :: T) n H k) (keq k' .u8) : Out) | _ => none) = gs rec wm rest ((e, .int .u8 p) :: (d, lk s T) :: T) n H k
  rw [lk_cons, if_pos rfl, hs]
  show gs rec wm rest ((e, .int .u8 (Int.tmod L 3)) :: (d, .int .u8 L) :: T) n H k = _
  rw [hp]
namespace T
open Go
set_option maxRecDepth 100000
noncomputable def d0 : List G := [.o 4 (.mv (.c (.bool false)))]
noncomputable def d1 : List G := [.o 27 (.mv (.t 0)), .o 28 (.irem (.t 27) (.c (.int .u8 3))), .o 29 (.cv .i64 (.t 28)), .o 30 (.iadd (.c (.int .i64 1)) (.t 29)), .o 5 (.mv (.t 30))]
noncomputable def e1 (p : Int) : List G := [.o 27 (.mv (.t 0)), .o 28 (.mv (.c (.int .u8 p))), .o 29 (.cv .i64 (.t 28)), .o 30 (.iadd (.c (.int .i64 1)) (.t 29)), .o 5 (.mv (.t 30))]
noncomputable def d2 : List G := [.o 31 (.mv (.t 5)), .o 32 (.ca 4 [(.c (.int .i64 2)), (.c (.int .i64 3)), (.t 31)]), .o 6 (.al z23), .n (.sa 23 (.t 6) (.t 32))]
noncomputable def d3 : List G := [.o 34 (.la 23 (.t 6)), .o 35 (.ca 5 [(.t 34)]), .o 33 (.mv (.t 35)), .o 36 (.ex (.t 33) 0), .o 37 (.ex (.t 33) 1), .o 7 (.al z42), .n (.sa 42 (.t 7) (.t 36)), .o 8 (.mv (.t 37))]
noncomputable def d4 : List G := [.o 38 (.mv (.t 8)), .o 39 (.ne .i (.t 38) (.c (.int .i64 0))), .o 40 (.mv (.t 39)), .g 40 false 41 (.la 42 (.t 7)), .g 40 false 42 (.la 23 (.t 6)), .g 40 false 43 (.ca 6 [(.t 41), (.t 42)]), .g 40 false 44 (.nt (.t 43)), .o 45 (.pk (.t 40) (.c (.bool true)) (.t 44))]
noncomputable def d5 : List G := [.o 4 (.mv (.c (.bool false)))]
noncomputable def d6 : List G := [.o 47 (.la 42 (.t 7)), .o 48 (.bs (.str []) 1 [(0, (.c (.str [109])))]), .z 48, .o 49 (.bl z53 [(0, (.c (.int .i64 1))), (6, (.t 48))]), .o 50 (.ca 7 [(.t 47), (.t 49)]), .o 46 (.mv (.t 50)), .o 51 (.ex (.t 46) 0), .o 52 (.ex (.t 46) 1), .o 53 (.ex (.t 46) 2), .o 9 (.al z49), .n (.sa 42 (.t 7) (.t 51)), .n (.sa 49 (.t 9) (.t 52)), .o 10 (.mv (.t 53))]
noncomputable def d7 : List G := [.o 54 (.mv (.t 10)), .o 55 (.nt (.t 54))]
noncomputable def d8 : List G := [.o 4 (.mv (.c (.bool false)))]
noncomputable def d9 : List G := [.o 11 (.mv (.c (.int .i64 0)))]
noncomputable def d10 : List G := [.o 12 (.mv (.c (.int .i64 0)))]
noncomputable def d11 : List G := [.o 56 (.mv (.t 12)), .o 57 (.mv (.t 1)), .o 58 (.irem (.t 57) (.c (.int .u8 3))), .o 59 (.cv .i64 (.t 58)), .o 60 (.ileq (.t 56) (.t 59))]
noncomputable def e2 (q : Int) : List G := [.o 56 (.mv (.t 12)), .o 57 (.mv (.t 1)), .o 58 (.mv (.c (.int .u8 q))), .o 59 (.cv .i64 (.t 58)), .o 60 (.ileq (.t 56) (.t 59))]
noncomputable def d12 : List G := [.o 13 (.mv (.c (.int .i64 0)))]
noncomputable def d13 : List G := [.o 63 (.mv (.t 13)), .o 64 (.mv (.t 5)), .o 65 (.ilss (.t 63) (.t 64))]
noncomputable def d14 : List G := [.o 69 (.la 42 (.t 7)), .o 70 (.bl z53 [(0, (.c (.int .i64 2))), (2, (.c (.int .i64 2))), (3, (.c (.int .i64 9)))]), .o 71 (.ca 7 [(.t 69), (.t 70)]), .o 68 (.mv (.t 71)), .o 72 (.ex (.t 68) 0), .o 73 (.ex (.t 68) 1), .o 74 (.ex (.t 68) 2), .o 14 (.al z42), .o 15 (.al z49), .n (.sa 42 (.t 14) (.t 72)), .n (.sa 49 (.t 15) (.t 73)), .o 16 (.mv (.t 74))]
noncomputable def d15 : List G := [.o 75 (.mv (.t 16)), .o 76 (.nt (.t 75)), .o 77 (.mv (.t 76)), .g 77 false 78 (.fa 50 (.t 15) 2 0), .g 77 false 79 (.ld (.t 78)), .g 77 false 80 (.ln 0 (.t 79)), .g 77 false 81 (.ne .i (.t 80) (.c (.int .i64 1))), .o 82 (.pk (.t 77) (.c (.bool true)) (.t 81))]
noncomputable def d16 : List G := [.o 4 (.mv (.c (.bool false)))]
noncomputable def d17 : List G := [.o 83 (.mv (.t 11)), .o 84 (.iadd (.t 83) (.c (.int .i64 1))), .o 11 (.mv (.t 84))]
noncomputable def d18 : List G := [.o 86 (.fa 50 (.t 15) 2 0), .o 87 (.ld (.t 86)), .o 88 (.ia 0 0 0 (.t 87) (.c (.int .i64 0))), .o 89 (.ld (.t 88)), .o 90 (.ca 8 [(.t 89)]), .o 85 (.mv (.t 90)), .o 91 (.ex (.t 85) 0), .o 92 (.ex (.t 85) 1), .o 17 (.al z55), .n (.sa 55 (.t 17) (.t 91)), .o 18 (.mv (.t 92))]
noncomputable def d19 : List G := [.o 94 (.la 42 (.t 14)), .o 95 (.fa 50 (.t 15) 2 0), .o 96 (.ld (.t 95)), .o 97 (.bl z53 [(0, (.c (.int .i64 4))), (7, (.t 96))]), .o 98 (.ca 7 [(.t 94), (.t 97)]), .o 93 (.mv (.t 98)), .o 99 (.ex (.t 93) 0), .o 100 (.ex (.t 93) 1), .o 101 (.ex (.t 93) 2), .o 19 (.al z49), .n (.sa 42 (.t 14) (.t 99)), .n (.sa 49 (.t 19) (.t 100)), .o 16 (.mv (.t 101))]
noncomputable def d20 : List G := [.o 102 (.mv (.t 18)), .o 103 (.ne .i (.t 102) (.c (.int .i64 0))), .o 104 (.mv (.t 103)), .g 104 false 105 (.fa 56 (.t 17) 1 0), .g 104 false 106 (.ld (.t 105)), .g 104 false 107 (.mv (.t 11)), .g 104 false 108 (.ne .i (.t 106) (.t 107)), .o 109 (.pk (.t 104) (.c (.bool true)) (.t 108)), .o 110 (.mv (.t 109)), .g 110 false 111 (.mv (.t 16)), .g 110 false 112 (.nt (.t 111)), .o 113 (.pk (.t 110) (.c (.bool true)) (.t 112)), .o 114 (.mv (.t 113)), .g 114 false 115 (.fa 50 (.t 19) 0 0), .g 114 false 116 (.ld (.t 115)), .g 114 false 117 (.ne .i (.t 116) (.c (.int .i64 0))), .o 118 (.pk (.t 114) (.c (.bool true)) (.t 117))]
noncomputable def d21 : List G := [.o 4 (.mv (.c (.bool false)))]
noncomputable def d22 : List G := [.o 119 (.la 42 (.t 14)), .n (.sa 42 (.t 7) (.t 119))]
noncomputable def d23 : List G := [.o 66 (.mv (.t 13)), .o 67 (.iadd (.t 66) (.c (.int .i64 1))), .o 13 (.mv (.t 67))]
noncomputable def d24 : List G := [.o 121 (.la 42 (.t 7)), .o 122 (.bl z53 [(0, (.c (.int .i64 2))), (2, (.c (.int .i64 2))), (3, (.c (.int .i64 9)))]), .o 123 (.ca 7 [(.t 121), (.t 122)]), .o 120 (.mv (.t 123)), .o 124 (.ex (.t 120) 0), .o 125 (.ex (.t 120) 1), .o 126 (.ex (.t 120) 2), .o 20 (.al z42), .o 21 (.al z49), .n (.sa 42 (.t 20) (.t 124)), .n (.sa 49 (.t 21) (.t 125)), .o 22 (.mv (.t 126))]
noncomputable def d25 : List G := [.o 127 (.mv (.t 22)), .o 128 (.nt (.t 127)), .o 129 (.mv (.t 128)), .g 129 false 130 (.fa 50 (.t 21) 2 0), .g 129 false 131 (.ld (.t 130)), .g 129 false 132 (.ln 0 (.t 131)), .g 129 false 133 (.ne .i (.t 132) (.c (.int .i64 0))), .o 134 (.pk (.t 129) (.c (.bool true)) (.t 133))]
noncomputable def d26 : List G := [.o 4 (.mv (.c (.bool false)))]
noncomputable def d27 : List G := [.o 23 (.mv (.c (.int .i64 0)))]
noncomputable def d28 : List G := [.o 24 (.mv (.c (.int .i64 0)))]
noncomputable def d29 : List G := [.o 135 (.mv (.t 24)), .o 136 (.ilss (.t 135) (.c (.int .i64 2)))]
noncomputable def d30 : List G := [.o 25 (.al z49)]
noncomputable def d31 : List G := [.o 140 (.la 42 (.t 20)), .o 141 (.mv (.t 24)), .o 142 (.bl z53 [(0, (.c (.int .i64 14))), (4, (.t 141))]), .o 143 (.ca 7 [(.t 140), (.t 142)]), .o 139 (.mv (.t 143)), .o 144 (.ex (.t 139) 0), .o 145 (.ex (.t 139) 1), .o 146 (.ex (.t 139) 2), .n (.sa 42 (.t 20) (.t 144)), .n (.sa 49 (.t 25) (.t 145)), .o 22 (.mv (.t 146))]
noncomputable def d32 : List G := [.o 147 (.mv (.t 22)), .o 148 (.nt (.t 147))]
noncomputable def d33 : List G := [.o 4 (.mv (.c (.bool false)))]
noncomputable def d34 : List G := [.o 149 (.mv (.t 23)), .o 150 (.fa 50 (.t 25) 6 0), .o 151 (.ld (.t 150)), .o 152 (.iadd (.t 149) (.t 151)), .o 23 (.mv (.t 152))]
noncomputable def d35 : List G := [.o 137 (.mv (.t 24)), .o 138 (.iadd (.t 137) (.c (.int .i64 1))), .o 24 (.mv (.t 138))]
noncomputable def d36 : List G := [.o 154 (.la 42 (.t 20)), .o 155 (.bl z53 [(0, (.c (.int .i64 8))), (2, (.c (.int .i64 1)))]), .o 156 (.ca 7 [(.t 154), (.t 155)]), .o 153 (.mv (.t 156)), .o 157 (.ex (.t 153) 0), .o 158 (.ex (.t 153) 1), .o 159 (.ex (.t 153) 2), .o 26 (.al z49), .n (.sa 42 (.t 20) (.t 157)), .n (.sa 49 (.t 26) (.t 158)), .o 22 (.mv (.t 159))]
noncomputable def d37 : List G := [.o 160 (.mv (.t 22)), .o 161 (.nt (.t 160)), .o 162 (.mv (.t 161)), .g 162 false 163 (.mv (.t 23)), .g 162 false 164 (.ne .i (.t 163) (.c (.int .i64 1))), .o 165 (.pk (.t 162) (.c (.bool true)) (.t 164)), .o 166 (.mv (.t 165)), .g 166 false 167 (.fa 50 (.t 26) 6 0), .g 166 false 168 (.ld (.t 167)), .g 166 false 169 (.ne .i (.t 168) (.c (.int .i64 1))), .o 170 (.pk (.t 166) (.c (.bool true)) (.t 169))]
noncomputable def d38 : List G := [.o 4 (.mv (.c (.bool false)))]
noncomputable def d39 : List G := [.o 171 (.la 42 (.t 20)), .n (.sa 42 (.t 7) (.t 171))]
noncomputable def d40 : List G := [.o 61 (.mv (.t 12)), .o 62 (.iadd (.t 61) (.c (.int .i64 1))), .o 12 (.mv (.t 62))]
noncomputable def d41 : List G := [.o 172 (.ca 9 []), .o 4 (.mv (.t 172))]
theorem rx1 {L R p : Int} (hp : Int.tmod L 3 = p) : ∀ (rec : Rec) (wm : Nat) (T : Tm) (n : Nat) (H : Hp) (k : Kt), Two (.int .u8 L) (.int .u8 R) T → gs rec wm d1 T n H k = gs rec wm (e1 p) T n H k := by
  intro rec wm T n H k ht
  exact gs_irem ht.1 hp
theorem rx2 {L R q : Int} (hq : Int.tmod R 3 = q) : ∀ (rec : Rec) (wm : Nat) (T : Tm) (n : Nat) (H : Hp) (k : Kt), Two (.int .u8 L) (.int .u8 R) T → gs rec wm d11 T n H k = gs rec wm (e2 q) T n H k := by
  intro rec wm T n H k ht
  show gs rec wm [.o 57 (.mv (.t 1)), .o 58 (.irem (.t 57) (.c (.int .u8 3))), .o 59 (.cv .i64 (.t 58)), .o 60 (.ileq (.t 56) (.t 59))] ((56, lk 12 T) :: T) n H k = gs rec wm [.o 57 (.mv (.t 1)), .o 58 (.mv (.c (.int .u8 q))), .o 59 (.cv .i64 (.t 58)), .o 60 (.ileq (.t 56) (.t 59))] ((56, lk 12 T) :: T) n H k
  exact gs_irem (s := 1) (T := (56, lk 12 T) :: T) (show lk 1 ((56, lk 12 T) :: T) = _ from (by rw [lk_cons, if_neg (by decide)]; exact ht.2)) hq
noncomputable def c3o : C := (.seq (.rg d0 [4]) (.seq (.rg d1 [5]) (.seq (.rg d2 [6]) (.seq (.rg d3 [7, 8]) (.seq (.seq (.rg d4 [45]) (.cond (.t 45) (.seq (.rg d5 [4]) .ret) .skip)) (.seq (.rg d6 [10]) (.seq (.seq (.rg d7 [55]) (.cond (.t 55) (.seq (.rg d8 [4]) .ret) .skip)) (.seq (.rg d9 [11]) (.seq (.seq (.rg d10 [12]) (.block 0 (.loop (.seq (.seq (.rg d11 [60]) (.cond (.t 60) .skip (.exit 0))) (.seq (.block 1 (.seq (.seq (.rg d12 [13]) (.block 2 (.loop (.seq (.seq (.rg d13 [65]) (.cond (.t 65) .skip (.exit 2))) (.seq (.block 3 (.seq (.rg d14 [14, 15, 16]) (.seq (.seq (.rg d15 [82]) (.cond (.t 82) (.seq (.rg d16 [4]) .ret) .skip)) (.seq (.rg d17 [11]) (.seq (.rg d18 [17, 18]) (.seq (.rg d19 [19, 16]) (.seq (.seq (.rg d20 [118]) (.cond (.t 118) (.seq (.rg d21 [4]) .ret) .skip)) (.rg d22 [])))))))) (.rg d23 [13])))))) (.seq (.rg d24 [20, 21, 22]) (.seq (.seq (.rg d25 [134]) (.cond (.t 134) (.seq (.rg d26 [4]) .ret) .skip)) (.seq (.rg d27 [23]) (.seq (.seq (.rg d28 [24]) (.block 4 (.loop (.seq (.seq (.rg d29 [136]) (.cond (.t 136) .skip (.exit 4))) (.seq (.block 5 (.seq (.rg d30 [25]) (.seq (.seq (.rg d31 [22]) (.seq (.rg d32 [148]) (.cond (.t 148) (.seq (.rg d33 [4]) .ret) .skip))) (.rg d34 [23])))) (.rg d35 [24])))))) (.seq (.rg d36 [26, 22]) (.seq (.seq (.rg d37 [170]) (.cond (.t 170) (.seq (.rg d38 [4]) .ret) .skip)) (.rg d39 []))))))))) (.rg d40 [12])))))) (.seq (.rg d41 [4]) .ret))))))))))
noncomputable def c3 (p q : Int) : C := (.seq (.rg d0 [4]) (.seq (.rg (e1 p) [5]) (.seq (.rg d2 [6]) (.seq (.rg d3 [7, 8]) (.seq (.seq (.rg d4 [45]) (.cond (.t 45) (.seq (.rg d5 [4]) .ret) .skip)) (.seq (.rg d6 [10]) (.seq (.seq (.rg d7 [55]) (.cond (.t 55) (.seq (.rg d8 [4]) .ret) .skip)) (.seq (.rg d9 [11]) (.seq (.seq (.rg d10 [12]) (.block 0 (.loop (.seq (.seq (.rg (e2 q) [60]) (.cond (.t 60) .skip (.exit 0))) (.seq (.block 1 (.seq (.seq (.rg d12 [13]) (.block 2 (.loop (.seq (.seq (.rg d13 [65]) (.cond (.t 65) .skip (.exit 2))) (.seq (.block 3 (.seq (.rg d14 [14, 15, 16]) (.seq (.seq (.rg d15 [82]) (.cond (.t 82) (.seq (.rg d16 [4]) .ret) .skip)) (.seq (.rg d17 [11]) (.seq (.rg d18 [17, 18]) (.seq (.rg d19 [19, 16]) (.seq (.seq (.rg d20 [118]) (.cond (.t 118) (.seq (.rg d21 [4]) .ret) .skip)) (.rg d22 [])))))))) (.rg d23 [13])))))) (.seq (.rg d24 [20, 21, 22]) (.seq (.seq (.rg d25 [134]) (.cond (.t 134) (.seq (.rg d26 [4]) .ret) .skip)) (.seq (.rg d27 [23]) (.seq (.seq (.rg d28 [24]) (.block 4 (.loop (.seq (.seq (.rg d29 [136]) (.cond (.t 136) .skip (.exit 4))) (.seq (.block 5 (.seq (.rg d30 [25]) (.seq (.seq (.rg d31 [22]) (.seq (.rg d32 [148]) (.cond (.t 148) (.seq (.rg d33 [4]) .ret) .skip))) (.rg d34 [23])))) (.rg d35 [24])))))) (.seq (.rg d36 [26, 22]) (.seq (.seq (.rg d37 [170]) (.cond (.t 170) (.seq (.rg d38 [4]) .ret) .skip)) (.rg d39 []))))))))) (.rg d40 [12])))))) (.seq (.rg d41 [4]) .ret))))))))))
theorem f3c : f3 = ⟨c3o, [.t 4], .q, 2⟩ := by kernel_rfl
theorem sub3 {L R p q : Int} (hp : Int.tmod L 3 = p) (hq : Int.tmod R 3 = q) : Sub (.int .u8 L) (.int .u8 R) c3o (c3 p q) := (.seq (.rg (by kernel_rfl)) (.seq (.rx (by kernel_rfl) (rx1 hp)) (.seq (.rg (by kernel_rfl)) (.seq (.rg (by kernel_rfl)) (.seq (.seq (.rg (by kernel_rfl)) (.cond (.seq (.rg (by kernel_rfl)) .ret) .skip)) (.seq (.rg (by kernel_rfl)) (.seq (.seq (.rg (by kernel_rfl)) (.cond (.seq (.rg (by kernel_rfl)) .ret) .skip)) (.seq (.rg (by kernel_rfl)) (.seq (.seq (.rg (by kernel_rfl)) (.block (.loop (.seq (.seq (.rx (by kernel_rfl) (rx2 hq)) (.cond .skip .exit)) (.seq (.block (.seq (.seq (.rg (by kernel_rfl)) (.block (.loop (.seq (.seq (.rg (by kernel_rfl)) (.cond .skip .exit)) (.seq (.block (.seq (.rg (by kernel_rfl)) (.seq (.seq (.rg (by kernel_rfl)) (.cond (.seq (.rg (by kernel_rfl)) .ret) .skip)) (.seq (.rg (by kernel_rfl)) (.seq (.rg (by kernel_rfl)) (.seq (.rg (by kernel_rfl)) (.seq (.seq (.rg (by kernel_rfl)) (.cond (.seq (.rg (by kernel_rfl)) .ret) .skip)) (.rg (by kernel_rfl))))))))) (.rg (by kernel_rfl))))))) (.seq (.rg (by kernel_rfl)) (.seq (.seq (.rg (by kernel_rfl)) (.cond (.seq (.rg (by kernel_rfl)) .ret) .skip)) (.seq (.rg (by kernel_rfl)) (.seq (.seq (.rg (by kernel_rfl)) (.block (.loop (.seq (.seq (.rg (by kernel_rfl)) (.cond .skip .exit)) (.seq (.block (.seq (.rg (by kernel_rfl)) (.seq (.seq (.rg (by kernel_rfl)) (.seq (.rg (by kernel_rfl)) (.cond (.seq (.rg (by kernel_rfl)) .ret) .skip))) (.rg (by kernel_rfl))))) (.rg (by kernel_rfl))))))) (.seq (.rg (by kernel_rfl)) (.seq (.seq (.rg (by kernel_rfl)) (.cond (.seq (.rg (by kernel_rfl)) .ret) .skip)) (.rg (by kernel_rfl)))))))))) (.rg (by kernel_rfl))))))) (.seq (.rg (by kernel_rfl)) .ret))))))))))
noncomputable def f3' (p q : Int) : FD := ⟨c3 p q, [.t 4], .q, 2⟩
theorem body3 {L R p q : Int} (hp : Int.tmod L 3 = p) (hq : Int.tmod R 3 = q) (rec : Rec) (wm n : Nat) (H : Hp) : body rec f3 [.int .u8 L, .int .u8 R] wm n H = body rec (f3' p q) [.int .u8 L, .int .u8 R] wm n H := by
  rw [f3c]
  show code rec n c3o (args [.int .u8 L, .int .u8 R] 0) n H (fin .q [.t 4] n H) (fun _ _ _ _ => none) (fin .q [.t 4] n H) = code rec n (c3 p q) (args [.int .u8 L, .int .u8 R] 0) n H (fin .q [.t 4] n H) (fun _ _ _ _ => none) (fin .q [.t 4] n H)
  exact (sub3 hp hq).ok rec n _ n H _ _ _ _ _ _ ⟨rfl, rfl⟩ (fun _ _ _ _ => rfl) (fun _ _ _ _ _ => rfl) (fun _ _ _ _ => rfl)
end T
end Go.Proofs.YtinjiaadlkpamaaGreatDoor.Ev
