/- Each function of the table is sound. No condition. -/
import Derived.Test.YtgaghaggiblabaaGreatDoorBas
set_option linter.all false
namespace Go.Proofs.YtgaghaggiblabaaGreatDoor.Ev
def Tr.All (p : Nat -> FD -> Prop) : Tr -> Prop
 | .e => True
 | .n l k v r => Tr.All p l /\ p k v /\ Tr.All p r
theorem Tr.All.get {p : Nat -> FD -> Prop} : ∀ {t : Tr}, Tr.All p t -> ∀ {i : Nat} {v : FD}, t.get i = some v -> p i v
 | .e, _, _, _, h => by cases h
 | .n l k v r, ⟨h1, h2, h3⟩, i, w, h => by
  replace h : (Bool.rec (Bool.rec (r.get i) (l.get i) (Nat.ble i k)) (some v) (Nat.beq i k) : Option FD) = some w := h
  cases e : Nat.beq i k with
  | true =>
   rw [e] at h
   cases h
   rw [Nat.eq_of_beq_eq_true e]
   exact h2
  | false =>
   rw [e] at h
   cases e' : Nat.ble i k with
   | true => rw [e'] at h; exact Tr.All.get h1 h
   | false => rw [e'] at h; exact Tr.All.get h3 h
end Go.Proofs.YtgaghaggiblabaaGreatDoor.Ev
namespace Go.Proofs.YtgaghaggiblabaaGreatDoor.Ev.T
open Go Go.Proofs Go.Proofs.YtgaghaggiblabaaGreatDoor Go.Proofs.YtgaghaggiblabaaGreatDoor.Ev
set_option maxRecDepth 100000
variable {X : Nat -> AV} {C : Nat -> Int} {hC : HC C}
def SN (n : Nat) (b : FD) : Prop := ∀ {X : Nat -> AV} {C : Nat -> Int} {hC : HC C}, Snd (QX X C hC) n b
theorem sn (v : Nat) {n : Nat} {a : Func} {b : FD} (h1 : Tryz.prog.funcs[n]? = some a) (h2 : (a.name == "runtime.NumGoroutine") = false) (h : ∀ {X : Nat -> AV} {C : Nat -> Int} {hC : HC C}, fok (M (QX X C hC)) v (oneTJ (J (QX X C hC)) 568) a b = true) : SN n b := fun {_ _ _} => snd_of hty hmx hX hJ hn h1 h2 h
theorem s6 : SN 6 f6 := sn 4159 Tryz.func6 (by kernel_rfl) fun {_ _ _} => by kernel_rfl
theorem s7 : SN 7 f7 := sn 8800522207295 Tryz.func7 (by kernel_rfl) fun {_ _ _} => by kernel_rfl
theorem s8 : SN 8 f8 := sn 17180131839 Tryz.func8 (by kernel_rfl) fun {_ _ _} => by kernel_rfl
theorem s9 : SN 9 f9 := sn 35202566983423 Tryz.func9 (by kernel_rfl) fun {_ _ _} => by kernel_rfl
theorem s12 : SN 12 f12 := sn 131999 Tryz.func12 (by kernel_rfl) fun {_ _ _} => by kernel_rfl
theorem s13 : SN 13 f13 := sn 297124952241606225942508756983 Tryz.func13 (by kernel_rfl) fun {_ _ _} => by kernel_rfl
theorem s14 : SN 14 f14 := sn 140737488355965 Tryz.func14 (by kernel_rfl) fun {_ _ _} => by kernel_rfl
theorem s15 : SN 15 f15 := sn 7 Tryz.func15 (by kernel_rfl) fun {_ _ _} => by kernel_rfl
theorem s16 : SN 16 f16 := sn 2535436600148399756649049359231 Tryz.func16 (by kernel_rfl) fun {_ _ _} => by kernel_rfl
theorem s17 : SN 17 f17 := sn 17314618223 Tryz.func17 (by kernel_rfl) fun {_ _ _} => by kernel_rfl
theorem s18 : SN 18 f18 := sn 5 Tryz.func18 (by kernel_rfl) fun {_ _ _} => by kernel_rfl
theorem s19 : SN 19 f19 := sn 1966463 Tryz.func19 (by kernel_rfl) fun {_ _ _} => by kernel_rfl
theorem s20 : SN 20 f20 := sn 66483 Tryz.func20 (by kernel_rfl) fun {_ _ _} => by kernel_rfl
theorem s22 : SN 22 f22 := sn 34360732639 Tryz.func22 (by kernel_rfl) fun {_ _ _} => by kernel_rfl
theorem s23 : SN 23 f23 := sn 5 Tryz.func23 (by kernel_rfl) fun {_ _ _} => by kernel_rfl
theorem s24 : SN 24 f24 := sn 5 Tryz.func24 (by kernel_rfl) fun {_ _ _} => by kernel_rfl
theorem s25 : SN 25 f25 := sn 19327878087 Tryz.func25 (by kernel_rfl) fun {_ _ _} => by kernel_rfl
theorem s26 : SN 26 f26 := sn 4398046511135 Tryz.func26 (by kernel_rfl) fun {_ _ _} => by kernel_rfl
theorem s27 : SN 27 f27 := sn 19 Tryz.func27 (by kernel_rfl) fun {_ _ _} => by kernel_rfl
theorem s28 : SN 28 f28 := sn 68847469303 Tryz.func28 (by kernel_rfl) fun {_ _ _} => by kernel_rfl
theorem s29 : SN 29 f29 := sn 71 Tryz.func29 (by kernel_rfl) fun {_ _ _} => by kernel_rfl
theorem s30 : SN 30 f30 := sn 144119861036056927 Tryz.func30 (by kernel_rfl) fun {_ _ _} => by kernel_rfl
theorem s31 : SN 31 f31 := sn 71 Tryz.func31 (by kernel_rfl) fun {_ _ _} => by kernel_rfl
theorem s32 : SN 32 f32 := sn 61572666097907 Tryz.func32 (by kernel_rfl) fun {_ _ _} => by kernel_rfl
theorem s33 : SN 33 f33 := sn 525 Tryz.func33 (by kernel_rfl) fun {_ _ _} => by kernel_rfl
theorem s34 : SN 34 f34 := sn 4157 Tryz.func34 (by kernel_rfl) fun {_ _ _} => by kernel_rfl
theorem s35 : SN 35 f35 := sn 66167 Tryz.func35 (by kernel_rfl) fun {_ _ _} => by kernel_rfl
theorem s36 : SN 36 f36 := sn 4260807 Tryz.func36 (by kernel_rfl) fun {_ _ _} => by kernel_rfl
theorem s37 : SN 37 f37 := sn 71 Tryz.func37 (by kernel_rfl) fun {_ _ _} => by kernel_rfl
theorem s38 : SN 38 f38 := sn 162898053891850995522829768459263 Tryz.func38 (by kernel_rfl) fun {_ _ _} => by kernel_rfl
theorem s39 : SN 39 f39 := sn 1079 Tryz.func39 (by kernel_rfl) fun {_ _ _} => by kernel_rfl
theorem s40 : SN 40 f40 := sn 1 Tryz.func40 (by kernel_rfl) fun {_ _ _} => by kernel_rfl
theorem s41 : SN 41 f41 := sn 8724153287 Tryz.func41 (by kernel_rfl) fun {_ _ _} => by kernel_rfl
theorem s42 : SN 42 f42 := sn 5 Tryz.func42 (by kernel_rfl) fun {_ _ _} => by kernel_rfl
theorem s43 : SN 43 f43 := sn 75557931848358396189695 Tryz.func43 (by kernel_rfl) fun {_ _ _} => by kernel_rfl
theorem s44 : SN 44 f44 := sn 2199530770263 Tryz.func44 (by kernel_rfl) fun {_ _ _} => by kernel_rfl
theorem s45 : SN 45 f45 := sn 332306998984914629618253554751781823 Tryz.func45 (by kernel_rfl) fun {_ _ _} => by kernel_rfl
theorem s46 : SN 46 f46 := sn 37 Tryz.func46 (by kernel_rfl) fun {_ _ _} => by kernel_rfl
theorem s47 : SN 47 f47 := sn 31 Tryz.func47 (by kernel_rfl) fun {_ _ _} => by kernel_rfl
theorem s50 : SN 50 f50 := sn 20270628866116479 Tryz.func50 (by kernel_rfl) fun {_ _ _} => by kernel_rfl
theorem s51 : SN 51 f51 := sn 525 Tryz.func51 (by kernel_rfl) fun {_ _ _} => by kernel_rfl
theorem s52 : SN 52 f52 := sn 19142362215219775 Tryz.func52 (by kernel_rfl) fun {_ _ _} => by kernel_rfl
theorem s53 : SN 53 f53 := sn 27 Tryz.func53 (by kernel_rfl) fun {_ _ _} => by kernel_rfl
theorem s54 : SN 54 f54 := sn 19 Tryz.func54 (by kernel_rfl) fun {_ _ _} => by kernel_rfl
theorem s55 : SN 55 f55 := sn 11 Tryz.func55 (by kernel_rfl) fun {_ _ _} => by kernel_rfl
theorem s56 : SN 56 f56 := sn 5 Tryz.func56 (by kernel_rfl) fun {_ _ _} => by kernel_rfl
theorem s57 : SN 57 f57 := sn 19 Tryz.func57 (by kernel_rfl) fun {_ _ _} => by kernel_rfl
theorem s58 : SN 58 f58 := sn 73805061199732293599 Tryz.func58 (by kernel_rfl) fun {_ _ _} => by kernel_rfl
theorem s59 : SN 59 f59 := sn 18446814477014941663 Tryz.func59 (by kernel_rfl) fun {_ _ _} => by kernel_rfl
theorem s69 : SN 69 f69 := sn 285 Tryz.func69 (by kernel_rfl) fun {_ _ _} => by kernel_rfl
theorem s70 : SN 70 f70 := sn 134356943 Tryz.func70 (by kernel_rfl) fun {_ _ _} => by kernel_rfl
theorem s73 : SN 73 f73 := sn 7 Tryz.func73 (by kernel_rfl) fun {_ _ _} => by kernel_rfl
theorem s74 : SN 74 f74 := sn 19 Tryz.func74 (by kernel_rfl) fun {_ _ _} => by kernel_rfl
theorem s75 : SN 75 f75 := sn 15 Tryz.func75 (by kernel_rfl) fun {_ _ _} => by kernel_rfl
theorem s76 : SN 76 f76 := sn 31 Tryz.func76 (by kernel_rfl) fun {_ _ _} => by kernel_rfl
theorem s77 : SN 77 f77 := sn 261 Tryz.func77 (by kernel_rfl) fun {_ _ _} => by kernel_rfl
theorem s78 : SN 78 f78 := sn 19807040700047218784543512319 Tryz.func78 (by kernel_rfl) fun {_ _ _} => by kernel_rfl
theorem s80 : SN 80 f80 := sn 1 Tryz.func80 (by kernel_rfl) fun {_ _ _} => by kernel_rfl
theorem s81 : SN 81 f81 := sn 550263326711 Tryz.func81 (by kernel_rfl) fun {_ _ _} => by kernel_rfl
theorem s82 : SN 82 f82 := sn 13 Tryz.func82 (by kernel_rfl) fun {_ _ _} => by kernel_rfl
theorem s84 : SN 84 f84 := sn 2199560134333 Tryz.func84 (by kernel_rfl) fun {_ _ _} => by kernel_rfl
theorem s85 : SN 85 f85 := sn 1967 Tryz.func85 (by kernel_rfl) fun {_ _ _} => by kernel_rfl
theorem s87 : SN 87 f87 := sn 7 Tryz.func87 (by kernel_rfl) fun {_ _ _} => by kernel_rfl
theorem s88 : SN 88 f88 := sn 537399539 Tryz.func88 (by kernel_rfl) fun {_ _ _} => by kernel_rfl
theorem s90 : SN 90 f90 := sn 15 Tryz.func90 (by kernel_rfl) fun {_ _ _} => by kernel_rfl
theorem s91 : SN 91 f91 := sn 23 Tryz.func91 (by kernel_rfl) fun {_ _ _} => by kernel_rfl
theorem s92 : SN 92 f92 := sn 576461027586080991 Tryz.func92 (by kernel_rfl) fun {_ _ _} => by kernel_rfl
theorem s93 : SN 93 f93 := sn 134218733 Tryz.func93 (by kernel_rfl) fun {_ _ _} => by kernel_rfl
theorem s94 : SN 94 f94 := sn 19 Tryz.func94 (by kernel_rfl) fun {_ _ _} => by kernel_rfl
theorem s95 : SN 95 f95 := sn 15 Tryz.func95 (by kernel_rfl) fun {_ _ _} => by kernel_rfl
theorem s96 : SN 96 f96 := sn 579705479836475135 Tryz.func96 (by kernel_rfl) fun {_ _ _} => by kernel_rfl
theorem s97 : SN 97 f97 := sn 66483 Tryz.func97 (by kernel_rfl) fun {_ _ _} => by kernel_rfl
theorem s98 : SN 98 f98 := sn 15 Tryz.func98 (by kernel_rfl) fun {_ _ _} => by kernel_rfl
theorem s99 : SN 99 f99 := sn 66483 Tryz.func99 (by kernel_rfl) fun {_ _ _} => by kernel_rfl
theorem s101 : SN 101 f101 := sn 79 Tryz.func101 (by kernel_rfl) fun {_ _ _} => by kernel_rfl
theorem s102 : SN 102 f102 := sn 17043423 Tryz.func102 (by kernel_rfl) fun {_ _ _} => by kernel_rfl
theorem s103 : SN 103 f103 := sn 69206527 Tryz.func103 (by kernel_rfl) fun {_ _ _} => by kernel_rfl
theorem s104 : SN 104 f104 := sn 127 Tryz.func104 (by kernel_rfl) fun {_ _ _} => by kernel_rfl
theorem s105 : SN 105 f105 := sn 19345469517144940588572639 Tryz.func105 (by kernel_rfl) fun {_ _ _} => by kernel_rfl
theorem s107 : SN 107 f107 := sn 79 Tryz.func107 (by kernel_rfl) fun {_ _ _} => by kernel_rfl
theorem s108 : SN 108 f108 := sn 4398048608639 Tryz.func108 (by kernel_rfl) fun {_ _ _} => by kernel_rfl
theorem s109 : SN 109 f109 := sn 295220069438970666975 Tryz.func109 (by kernel_rfl) fun {_ _ _} => by kernel_rfl
theorem s110 : SN 110 f110 := sn 7 Tryz.func110 (by kernel_rfl) fun {_ _ _} => by kernel_rfl
theorem s111 : SN 111 f111 := sn 67140183 Tryz.func111 (by kernel_rfl) fun {_ _ _} => by kernel_rfl
theorem s112 : SN 112 f112 := sn 31 Tryz.func112 (by kernel_rfl) fun {_ _ _} => by kernel_rfl
theorem s119 : SN 119 f119 := sn 35063 Tryz.func119 (by kernel_rfl) fun {_ _ _} => by kernel_rfl
theorem s120 : SN 120 f120 := sn 68719476959 Tryz.func120 (by kernel_rfl) fun {_ _ _} => by kernel_rfl
theorem s121 : SN 121 f121 := sn 271253279 Tryz.func121 (by kernel_rfl) fun {_ _ _} => by kernel_rfl
theorem s131 : SN 131 f131 := sn 4210931 Tryz.func131 (by kernel_rfl) fun {_ _ _} => by kernel_rfl
theorem s132 : SN 132 f132 := sn 4202303 Tryz.func132 (by kernel_rfl) fun {_ _ _} => by kernel_rfl
theorem s134 : SN 134 f134 := sn 149882047400733836543 Tryz.func134 (by kernel_rfl) fun {_ _ _} => by kernel_rfl
theorem s153 : SN 153 f153 := sn 61572919591007 Tryz.func153 (by kernel_rfl) fun {_ _ _} => by kernel_rfl
theorem s154 : SN 154 f154 := sn 66483 Tryz.func154 (by kernel_rfl) fun {_ _ _} => by kernel_rfl
theorem s155 : SN 155 f155 := sn 72062026444294263 Tryz.func155 (by kernel_rfl) fun {_ _ _} => by kernel_rfl
theorem s158 : SN 158 f158 := sn 1048775 Tryz.func158 (by kernel_rfl) fun {_ _ _} => by kernel_rfl
theorem s159 : SN 159 f159 := sn 8830452762879 Tryz.func159 (by kernel_rfl) fun {_ _ _} => by kernel_rfl
theorem s160 : SN 160 f160 := sn 21 Tryz.func160 (by kernel_rfl) fun {_ _ _} => by kernel_rfl
theorem s161 : SN 161 f161 := sn 3 Tryz.func161 (by kernel_rfl) fun {_ _ _} => by kernel_rfl
theorem s163 : SN 163 f163 := sn 604275 Tryz.func163 (by kernel_rfl) fun {_ _ _} => by kernel_rfl
theorem s165 : SN 165 f165 := sn 66483 Tryz.func165 (by kernel_rfl) fun {_ _ _} => by kernel_rfl
theorem s166 : SN 166 f166 := sn 127 Tryz.func166 (by kernel_rfl) fun {_ _ _} => by kernel_rfl
theorem s167 : SN 167 f167 := sn 39 Tryz.func167 (by kernel_rfl) fun {_ _ _} => by kernel_rfl
theorem s168 : SN 168 f168 := sn 31 Tryz.func168 (by kernel_rfl) fun {_ _ _} => by kernel_rfl
theorem s169 : SN 169 f169 := sn 7 Tryz.func169 (by kernel_rfl) fun {_ _ _} => by kernel_rfl
theorem s170 : SN 170 f170 := sn 23 Tryz.func170 (by kernel_rfl) fun {_ _ _} => by kernel_rfl
theorem s171 : SN 171 f171 := sn 525 Tryz.func171 (by kernel_rfl) fun {_ _ _} => by kernel_rfl
theorem s172 : SN 172 f172 := sn 2093 Tryz.func172 (by kernel_rfl) fun {_ _ _} => by kernel_rfl
theorem s173 : SN 173 f173 := sn 166234629111531451982416706258604031 Tryz.func173 (by kernel_rfl) fun {_ _ _} => by kernel_rfl
theorem s174 : SN 174 f174 := sn 7 Tryz.func174 (by kernel_rfl) fun {_ _ _} => by kernel_rfl
theorem s175 : SN 175 f175 := sn 134479895 Tryz.func175 (by kernel_rfl) fun {_ _ _} => by kernel_rfl
theorem s176 : SN 176 f176 := sn 11418678439937567024253668025710722925174374399 Tryz.func176 (by kernel_rfl) fun {_ _ _} => by kernel_rfl
theorem s177 : SN 177 f177 := sn 9903521494879166524318555639 Tryz.func177 (by kernel_rfl) fun {_ _ _} => by kernel_rfl
theorem s179 : SN 179 f179 := sn 7 Tryz.func179 (by kernel_rfl) fun {_ _ _} => by kernel_rfl
theorem s180 : SN 180 f180 := sn 23 Tryz.func180 (by kernel_rfl) fun {_ _ _} => by kernel_rfl
theorem s184 : SN 184 f184 := sn 5 Tryz.func184 (by kernel_rfl) fun {_ _ _} => by kernel_rfl
theorem s185 : SN 185 f185 := sn 3 Tryz.func185 (by kernel_rfl) fun {_ _ _} => by kernel_rfl
theorem s186 : SN 186 f186 := sn 71 Tryz.func186 (by kernel_rfl) fun {_ _ _} => by kernel_rfl
theorem s187 : SN 187 f187 := sn 5 Tryz.func187 (by kernel_rfl) fun {_ _ _} => by kernel_rfl
theorem s194 : SN 194 f194 := sn 1099512127549 Tryz.func194 (by kernel_rfl) fun {_ _ _} => by kernel_rfl
theorem s195 : SN 195 f195 := sn 1 Tryz.func195 (by kernel_rfl) fun {_ _ _} => by kernel_rfl
theorem s196 : SN 196 f196 := sn 34359738429 Tryz.func196 (by kernel_rfl) fun {_ _ _} => by kernel_rfl
theorem s201 : SN 201 f201 := sn 19 Tryz.func201 (by kernel_rfl) fun {_ _ _} => by kernel_rfl
theorem s202 : SN 202 f202 := sn 271 Tryz.func202 (by kernel_rfl) fun {_ _ _} => by kernel_rfl
theorem s211 : SN 211 f211 := sn 9225625898387103519 Tryz.func211 (by kernel_rfl) fun {_ _ _} => by kernel_rfl
theorem s218 : SN 218 f218 := sn 71 Tryz.func218 (by kernel_rfl) fun {_ _ _} => by kernel_rfl
theorem s219 : SN 219 f219 := sn 4362077127 Tryz.func219 (by kernel_rfl) fun {_ _ _} => by kernel_rfl
theorem s220 : SN 220 f220 := sn 5 Tryz.func220 (by kernel_rfl) fun {_ _ _} => by kernel_rfl
theorem s227 : SN 227 f227 := sn 71 Tryz.func227 (by kernel_rfl) fun {_ _ _} => by kernel_rfl
theorem s228 : SN 228 f228 := sn 2122351 Tryz.func228 (by kernel_rfl) fun {_ _ _} => by kernel_rfl
theorem s229 : SN 229 f229 := sn 21 Tryz.func229 (by kernel_rfl) fun {_ _ _} => by kernel_rfl
theorem s230 : SN 230 f230 := sn 1152921575491126139 Tryz.func230 (by kernel_rfl) fun {_ _ _} => by kernel_rfl
theorem s231 : SN 231 f231 := sn 18014433942971335 Tryz.func231 (by kernel_rfl) fun {_ _ _} => by kernel_rfl
theorem s232 : SN 232 f232 := sn 5 Tryz.func232 (by kernel_rfl) fun {_ _ _} => by kernel_rfl
theorem s237 : SN 237 f237 := sn 4196303 Tryz.func237 (by kernel_rfl) fun {_ _ _} => by kernel_rfl
theorem s238 : SN 238 f238 := sn 2418155506139600175235967 Tryz.func238 (by kernel_rfl) fun {_ _ _} => by kernel_rfl
theorem s239 : SN 239 f239 := sn 479 Tryz.func239 (by kernel_rfl) fun {_ _ _} => by kernel_rfl
theorem s240 : SN 240 f240 := sn 16778215 Tryz.func240 (by kernel_rfl) fun {_ _ _} => by kernel_rfl
theorem s241 : SN 241 f241 := sn 5 Tryz.func241 (by kernel_rfl) fun {_ _ _} => by kernel_rfl
theorem s242 : SN 242 f242 := sn 39 Tryz.func242 (by kernel_rfl) fun {_ _ _} => by kernel_rfl
theorem s243 : SN 243 f243 := sn 34359738575 Tryz.func243 (by kernel_rfl) fun {_ _ _} => by kernel_rfl
theorem s244 : SN 244 f244 := sn 8403999 Tryz.func244 (by kernel_rfl) fun {_ _ _} => by kernel_rfl
theorem s245 : SN 245 f245 := sn 144732487 Tryz.func245 (by kernel_rfl) fun {_ _ _} => by kernel_rfl
theorem s246 : SN 246 f246 := sn 1151 Tryz.func246 (by kernel_rfl) fun {_ _ _} => by kernel_rfl
theorem s247 : SN 247 f247 := sn 7 Tryz.func247 (by kernel_rfl) fun {_ _ _} => by kernel_rfl
theorem s248 : SN 248 f248 := sn 72057598332895487 Tryz.func248 (by kernel_rfl) fun {_ _ _} => by kernel_rfl
theorem s249 : SN 249 f249 := sn 2191 Tryz.func249 (by kernel_rfl) fun {_ _ _} => by kernel_rfl
theorem s250 : SN 250 f250 := sn 71 Tryz.func250 (by kernel_rfl) fun {_ _ _} => by kernel_rfl
theorem s257 : SN 257 f257 := sn 16439 Tryz.func257 (by kernel_rfl) fun {_ _ _} => by kernel_rfl
theorem s261 : SN 261 f261 := sn 5 Tryz.func261 (by kernel_rfl) fun {_ _ _} => by kernel_rfl
theorem s266 : SN 266 f266 := sn 21 Tryz.func266 (by kernel_rfl) fun {_ _ _} => by kernel_rfl
theorem s267 : SN 267 f267 := sn 144255930932920333 Tryz.func267 (by kernel_rfl) fun {_ _ _} => by kernel_rfl
theorem s268 : SN 268 f268 := sn 44601490402253548093668652770252251113456125 Tryz.func268 (by kernel_rfl) fun {_ _ _} => by kernel_rfl
theorem s269 : SN 269 f269 := sn 39614081275578930462936006781 Tryz.func269 (by kernel_rfl) fun {_ _ _} => by kernel_rfl
theorem s270 : SN 270 f270 := sn 2147483661 Tryz.func270 (by kernel_rfl) fun {_ _ _} => by kernel_rfl
theorem s271 : SN 271 f271 := sn 11418689328991643787981802138902924826222002301 Tryz.func271 (by kernel_rfl) fun {_ _ _} => by kernel_rfl
theorem s273 : SN 273 f273 := sn 91343874111252996457430380668607519177675112573 Tryz.func273 (by kernel_rfl) fun {_ _ _} => by kernel_rfl
theorem s275 : SN 275 f275 := sn 7 Tryz.func275 (by kernel_rfl) fun {_ _ _} => by kernel_rfl
theorem s276 : SN 276 f276 := sn 7 Tryz.func276 (by kernel_rfl) fun {_ _ _} => by kernel_rfl
theorem s277 : SN 277 f277 := sn 70369297844479 Tryz.func277 (by kernel_rfl) fun {_ _ _} => by kernel_rfl
theorem s278 : SN 278 f278 := sn 8255 Tryz.func278 (by kernel_rfl) fun {_ _ _} => by kernel_rfl
theorem s282 : SN 282 f282 := sn 4663 Tryz.func282 (by kernel_rfl) fun {_ _ _} => by kernel_rfl
theorem s283 : SN 283 f283 := sn 5 Tryz.func283 (by kernel_rfl) fun {_ _ _} => by kernel_rfl
theorem s284 : SN 284 f284 := sn 2106359 Tryz.func284 (by kernel_rfl) fun {_ _ _} => by kernel_rfl
theorem s285 : SN 285 f285 := sn 21 Tryz.func285 (by kernel_rfl) fun {_ _ _} => by kernel_rfl
theorem s287 : SN 287 f287 := sn 5 Tryz.func287 (by kernel_rfl) fun {_ _ _} => by kernel_rfl
theorem s288 : SN 288 f288 := sn 5 Tryz.func288 (by kernel_rfl) fun {_ _ _} => by kernel_rfl
theorem s289 : SN 289 f289 := sn 623 Tryz.func289 (by kernel_rfl) fun {_ _ _} => by kernel_rfl
theorem s290 : SN 290 f290 := sn 2175 Tryz.func290 (by kernel_rfl) fun {_ _ _} => by kernel_rfl
theorem s295 : SN 295 f295 := sn 2003 Tryz.func295 (by kernel_rfl) fun {_ _ _} => by kernel_rfl
theorem s301 : SN 301 f301 := sn 4521191813480699 Tryz.func301 (by kernel_rfl) fun {_ _ _} => by kernel_rfl
theorem s308 : SN 308 f308 := sn 17179886351 Tryz.func308 (by kernel_rfl) fun {_ _ _} => by kernel_rfl
theorem s311 : SN 311 f311 := sn 16661 Tryz.func311 (by kernel_rfl) fun {_ _ _} => by kernel_rfl
theorem s315 : SN 315 f315 := sn 23 Tryz.func315 (by kernel_rfl) fun {_ _ _} => by kernel_rfl
theorem s316 : SN 316 f316 := sn 4672924418055 Tryz.func316 (by kernel_rfl) fun {_ _ _} => by kernel_rfl
theorem s317 : SN 317 f317 := sn 604610753993680259391871 Tryz.func317 (by kernel_rfl) fun {_ _ _} => by kernel_rfl
theorem s318 : SN 318 f318 := sn 7 Tryz.func318 (by kernel_rfl) fun {_ _ _} => by kernel_rfl
theorem s319 : SN 319 f319 := sn 9453958451071855489151 Tryz.func319 (by kernel_rfl) fun {_ _ _} => by kernel_rfl
theorem s322 : SN 322 f322 := sn 5 Tryz.func322 (by kernel_rfl) fun {_ _ _} => by kernel_rfl
theorem s326 : SN 326 f326 := sn 275952700895 Tryz.func326 (by kernel_rfl) fun {_ _ _} => by kernel_rfl
theorem s327 : SN 327 f327 := sn 7 Tryz.func327 (by kernel_rfl) fun {_ _ _} => by kernel_rfl
theorem s328 : SN 328 f328 := sn 3 Tryz.func328 (by kernel_rfl) fun {_ _ _} => by kernel_rfl
theorem s329 : SN 329 f329 := sn 5 Tryz.func329 (by kernel_rfl) fun {_ _ _} => by kernel_rfl
theorem s330 : SN 330 f330 := sn 66591 Tryz.func330 (by kernel_rfl) fun {_ _ _} => by kernel_rfl
theorem s331 : SN 331 f331 := sn 4436164614047 Tryz.func331 (by kernel_rfl) fun {_ _ _} => by kernel_rfl
theorem s332 : SN 332 f332 := sn 21 Tryz.func332 (by kernel_rfl) fun {_ _ _} => by kernel_rfl
theorem s334 : SN 334 f334 := sn 567 Tryz.func334 (by kernel_rfl) fun {_ _ _} => by kernel_rfl
theorem s335 : SN 335 f335 := sn 5 Tryz.func335 (by kernel_rfl) fun {_ _ _} => by kernel_rfl
theorem s336 : SN 336 f336 := sn 4802675384265695 Tryz.func336 (by kernel_rfl) fun {_ _ _} => by kernel_rfl
theorem s338 : SN 338 f338 := sn 549764337567 Tryz.func338 (by kernel_rfl) fun {_ _ _} => by kernel_rfl
theorem s341 : SN 341 f341 := sn 8796227510079 Tryz.func341 (by kernel_rfl) fun {_ _ _} => by kernel_rfl
theorem s342 : SN 342 f342 := sn 4194551 Tryz.func342 (by kernel_rfl) fun {_ _ _} => by kernel_rfl
theorem s343 : SN 343 f343 := sn 7 Tryz.func343 (by kernel_rfl) fun {_ _ _} => by kernel_rfl
theorem s344 : SN 344 f344 := sn 21 Tryz.func344 (by kernel_rfl) fun {_ _ _} => by kernel_rfl
theorem s345 : SN 345 f345 := sn 21 Tryz.func345 (by kernel_rfl) fun {_ _ _} => by kernel_rfl
theorem s346 : SN 346 f346 := sn 31 Tryz.func346 (by kernel_rfl) fun {_ _ _} => by kernel_rfl
theorem s347 : SN 347 f347 := sn 79 Tryz.func347 (by kernel_rfl) fun {_ _ _} => by kernel_rfl
theorem s354 : SN 354 f354 := sn 19 Tryz.func354 (by kernel_rfl) fun {_ _ _} => by kernel_rfl
theorem s355 : SN 355 f355 := sn 30767 Tryz.func355 (by kernel_rfl) fun {_ _ _} => by kernel_rfl
theorem s358 : SN 358 f358 := sn 19 Tryz.func358 (by kernel_rfl) fun {_ _ _} => by kernel_rfl
theorem s359 : SN 359 f359 := sn 31 Tryz.func359 (by kernel_rfl) fun {_ _ _} => by kernel_rfl
theorem s361 : SN 361 f361 := sn 2449958232765035647 Tryz.func361 (by kernel_rfl) fun {_ _ _} => by kernel_rfl
theorem s362 : SN 362 f362 := sn 537399539 Tryz.func362 (by kernel_rfl) fun {_ _ _} => by kernel_rfl
theorem s363 : SN 363 f363 := sn 34539891 Tryz.func363 (by kernel_rfl) fun {_ _ _} => by kernel_rfl
theorem s365 : SN 365 f365 := sn 55 Tryz.func365 (by kernel_rfl) fun {_ _ _} => by kernel_rfl
theorem s366 : SN 366 f366 := sn 16942207 Tryz.func366 (by kernel_rfl) fun {_ _ _} => by kernel_rfl
theorem s376 : SN 376 f376 := sn 31 Tryz.func376 (by kernel_rfl) fun {_ _ _} => by kernel_rfl
theorem s377 : SN 377 f377 := sn 66483 Tryz.func377 (by kernel_rfl) fun {_ _ _} => by kernel_rfl
theorem s379 : SN 379 f379 := sn 295147905181504570311 Tryz.func379 (by kernel_rfl) fun {_ _ _} => by kernel_rfl
theorem s390 : SN 390 f390 := sn 71 Tryz.func390 (by kernel_rfl) fun {_ _ _} => by kernel_rfl
theorem s391 : SN 391 f391 := sn 79 Tryz.func391 (by kernel_rfl) fun {_ _ _} => by kernel_rfl
theorem s392 : SN 392 f392 := sn 70373047535575 Tryz.func392 (by kernel_rfl) fun {_ _ _} => by kernel_rfl
theorem s394 : SN 394 f394 := sn 5 Tryz.func394 (by kernel_rfl) fun {_ _ _} => by kernel_rfl
theorem s396 : SN 396 f396 := sn 1119355 Tryz.func396 (by kernel_rfl) fun {_ _ _} => by kernel_rfl
theorem s397 : SN 397 f397 := sn 45040669200222175 Tryz.func397 (by kernel_rfl) fun {_ _ _} => by kernel_rfl
theorem s398 : SN 398 f398 := sn 306244912101196767 Tryz.func398 (by kernel_rfl) fun {_ _ _} => by kernel_rfl
theorem s399 : SN 399 f399 := sn 11 Tryz.func399 (by kernel_rfl) fun {_ _ _} => by kernel_rfl
theorem s400 : SN 400 f400 := sn 131279 Tryz.func400 (by kernel_rfl) fun {_ _ _} => by kernel_rfl
theorem s401 : SN 401 f401 := sn 23 Tryz.func401 (by kernel_rfl) fun {_ _ _} => by kernel_rfl
theorem s402 : SN 402 f402 := sn 5 Tryz.func402 (by kernel_rfl) fun {_ _ _} => by kernel_rfl
theorem s403 : SN 403 f403 := sn 21 Tryz.func403 (by kernel_rfl) fun {_ _ _} => by kernel_rfl
theorem s408 : SN 408 f408 := sn 9139278152469199 Tryz.func408 (by kernel_rfl) fun {_ _ _} => by kernel_rfl
theorem s409 : SN 409 f409 := sn 15 Tryz.func409 (by kernel_rfl) fun {_ _ _} => by kernel_rfl
theorem s410 : SN 410 f410 := sn 9223944066377596895 Tryz.func410 (by kernel_rfl) fun {_ _ _} => by kernel_rfl
theorem s411 : SN 411 f411 := sn 66483 Tryz.func411 (by kernel_rfl) fun {_ _ _} => by kernel_rfl
theorem s413 : SN 413 f413 := sn 66483 Tryz.func413 (by kernel_rfl) fun {_ _ _} => by kernel_rfl
theorem s414 : SN 414 f414 := sn 15 Tryz.func414 (by kernel_rfl) fun {_ _ _} => by kernel_rfl
theorem s416 : SN 416 f416 := sn 68996332861 Tryz.func416 (by kernel_rfl) fun {_ _ _} => by kernel_rfl
theorem s417 : SN 417 f417 := sn 268560407 Tryz.func417 (by kernel_rfl) fun {_ _ _} => by kernel_rfl
theorem s418 : SN 418 f418 := sn 66483 Tryz.func418 (by kernel_rfl) fun {_ _ _} => by kernel_rfl
theorem s419 : SN 419 f419 := sn 19 Tryz.func419 (by kernel_rfl) fun {_ _ _} => by kernel_rfl
theorem s420 : SN 420 f420 := sn 31 Tryz.func420 (by kernel_rfl) fun {_ _ _} => by kernel_rfl
theorem s421 : SN 421 f421 := sn 2147618759 Tryz.func421 (by kernel_rfl) fun {_ _ _} => by kernel_rfl
theorem s422 : SN 422 f422 := sn 23 Tryz.func422 (by kernel_rfl) fun {_ _ _} => by kernel_rfl
theorem s435 : SN 435 f435 := sn 67871 Tryz.func435 (by kernel_rfl) fun {_ _ _} => by kernel_rfl
theorem s436 : SN 436 f436 := sn 27 Tryz.func436 (by kernel_rfl) fun {_ _ _} => by kernel_rfl
theorem s438 : SN 438 f438 := sn 7 Tryz.func438 (by kernel_rfl) fun {_ _ _} => by kernel_rfl
theorem s439 : SN 439 f439 := sn 32819 Tryz.func439 (by kernel_rfl) fun {_ _ _} => by kernel_rfl
theorem s440 : SN 440 f440 := sn 75499471 Tryz.func440 (by kernel_rfl) fun {_ _ _} => by kernel_rfl
theorem s441 : SN 441 f441 := sn 33620943 Tryz.func441 (by kernel_rfl) fun {_ _ _} => by kernel_rfl
theorem s444 : SN 444 f444 := sn 295147905181504570311 Tryz.func444 (by kernel_rfl) fun {_ _ _} => by kernel_rfl
theorem s446 : SN 446 f446 := sn 19 Tryz.func446 (by kernel_rfl) fun {_ _ _} => by kernel_rfl
theorem s447 : SN 447 f447 := sn 7 Tryz.func447 (by kernel_rfl) fun {_ _ _} => by kernel_rfl
theorem s448 : SN 448 f448 := sn 71 Tryz.func448 (by kernel_rfl) fun {_ _ _} => by kernel_rfl
theorem s449 : SN 449 f449 := sn 27 Tryz.func449 (by kernel_rfl) fun {_ _ _} => by kernel_rfl
theorem s450 : SN 450 f450 := sn 42535296023574879666274036850519702559 Tryz.func450 (by kernel_rfl) fun {_ _ _} => by kernel_rfl
theorem s451 : SN 451 f451 := sn 5 Tryz.func451 (by kernel_rfl) fun {_ _ _} => by kernel_rfl
theorem s452 : SN 452 f452 := sn 17389 Tryz.func452 (by kernel_rfl) fun {_ _ _} => by kernel_rfl
theorem s454 : SN 454 f454 := sn 66483 Tryz.func454 (by kernel_rfl) fun {_ _ _} => by kernel_rfl
theorem s455 : SN 455 f455 := sn 15 Tryz.func455 (by kernel_rfl) fun {_ _ _} => by kernel_rfl
theorem s457 : SN 457 f457 := sn 65655 Tryz.func457 (by kernel_rfl) fun {_ _ _} => by kernel_rfl
theorem s458 : SN 458 f458 := sn 2127 Tryz.func458 (by kernel_rfl) fun {_ _ _} => by kernel_rfl
theorem s463 : SN 463 f463 := sn 66491 Tryz.func463 (by kernel_rfl) fun {_ _ _} => by kernel_rfl
theorem s464 : SN 464 f464 := sn 17179886351 Tryz.func464 (by kernel_rfl) fun {_ _ _} => by kernel_rfl
noncomputable def tab1 : Tr := (.n (.n (.n (.n (.n (.n (.n (.n .e 6 f6 .e) 7 f7 (.n .e 8 f8 .e)) 9 f9 (.n (.n .e 12 f12 .e) 13 f13 (.n .e 14 f14 .e))) 15 f15 (.n (.n (.n .e 16 f16 .e) 17 f17 (.n .e 18 f18 .e)) 19 f19 (.n (.n .e 20 f20 .e) 22 f22 (.n .e 23 f23 .e)))) 24 f24 (.n (.n (.n (.n .e 25 f25 .e) 26 f26 (.n .e 27 f27 .e)) 28 f28 (.n (.n .e 29 f29 .e) 30 f30 (.n .e 31 f31 .e))) 32 f32 (.n (.n (.n .e 33 f33 .e) 34 f34 (.n .e 35 f35 .e)) 36 f36 (.n (.n .e 37 f37 .e) 38 f38 (.n .e 39 f39 .e))))) 40 f40 (.n (.n (.n (.n (.n .e 41 f41 .e) 42 f42 (.n .e 43 f43 .e)) 44 f44 (.n (.n .e 45 f45 .e) 46 f46 (.n .e 47 f47 .e))) 50 f50 (.n (.n (.n .e 51 f51 .e) 52 f52 (.n .e 53 f53 .e)) 54 f54 (.n (.n .e 55 f55 .e) 56 f56 (.n .e 57 f57 .e)))) 58 f58 (.n (.n (.n (.n .e 59 f59 .e) 69 f69 (.n .e 70 f70 .e)) 73 f73 (.n (.n .e 74 f74 .e) 75 f75 (.n .e 76 f76 .e))) 77 f77 (.n (.n (.n .e 78 f78 .e) 80 f80 (.n .e 81 f81 .e)) 82 f82 (.n (.n .e 84 f84 .e) 85 f85 (.n .e 87 f87 .e)))))) 88 f88 (.n (.n (.n (.n (.n (.n .e 90 f90 .e) 91 f91 (.n .e 92 f92 .e)) 93 f93 (.n (.n .e 94 f94 .e) 95 f95 (.n .e 96 f96 .e))) 97 f97 (.n (.n (.n .e 98 f98 .e) 99 f99 (.n .e 101 f101 .e)) 102 f102 (.n (.n .e 103 f103 .e) 104 f104 (.n .e 105 f105 .e)))) 107 f107 (.n (.n (.n (.n .e 108 f108 .e) 109 f109 (.n .e 110 f110 .e)) 111 f111 (.n (.n .e 112 f112 .e) 119 f119 (.n .e 120 f120 .e))) 121 f121 (.n (.n (.n .e 131 f131 .e) 132 f132 (.n .e 134 f134 .e)) 153 f153 (.n (.n .e 154 f154 .e) 155 f155 (.n .e 158 f158 .e))))) 159 f159 (.n (.n (.n (.n (.n .e 160 f160 .e) 161 f161 (.n .e 163 f163 .e)) 165 f165 (.n (.n .e 166 f166 .e) 167 f167 (.n .e 168 f168 .e))) 169 f169 (.n (.n (.n .e 170 f170 .e) 171 f171 (.n .e 172 f172 .e)) 173 f173 (.n (.n .e 174 f174 .e) 175 f175 (.n .e 176 f176 .e)))) 177 f177 (.n (.n (.n (.n .e 179 f179 .e) 180 f180 (.n .e 184 f184 .e)) 185 f185 (.n (.n .e 186 f186 .e) 187 f187 (.n .e 194 f194 .e))) 195 f195 (.n (.n (.n .e 196 f196 .e) 201 f201 (.n .e 202 f202 .e)) 211 f211 (.n (.n .e 218 f218 .e) 219 f219 .e)))))) 220 f220 (.n (.n (.n (.n (.n (.n (.n .e 227 f227 .e) 228 f228 (.n .e 229 f229 .e)) 230 f230 (.n (.n .e 231 f231 .e) 232 f232 (.n .e 237 f237 .e))) 238 f238 (.n (.n (.n .e 239 f239 .e) 240 f240 (.n .e 241 f241 .e)) 242 f242 (.n (.n .e 243 f243 .e) 244 f244 (.n .e 245 f245 .e)))) 246 f246 (.n (.n (.n (.n .e 247 f247 .e) 248 f248 (.n .e 249 f249 .e)) 250 f250 (.n (.n .e 257 f257 .e) 261 f261 (.n .e 266 f266 .e))) 267 f267 (.n (.n (.n .e 268 f268 .e) 269 f269 (.n .e 270 f270 .e)) 271 f271 (.n (.n .e 273 f273 .e) 275 f275 (.n .e 276 f276 .e))))) 277 f277 (.n (.n (.n (.n (.n .e 278 f278 .e) 282 f282 (.n .e 283 f283 .e)) 284 f284 (.n (.n .e 285 f285 .e) 287 f287 (.n .e 288 f288 .e))) 289 f289 (.n (.n (.n .e 290 f290 .e) 295 f295 (.n .e 301 f301 .e)) 308 f308 (.n (.n .e 311 f311 .e) 315 f315 (.n .e 316 f316 .e)))) 317 f317 (.n (.n (.n (.n .e 318 f318 .e) 319 f319 (.n .e 322 f322 .e)) 326 f326 (.n (.n .e 327 f327 .e) 328 f328 (.n .e 329 f329 .e))) 330 f330 (.n (.n (.n .e 331 f331 .e) 332 f332 (.n .e 334 f334 .e)) 335 f335 (.n (.n .e 336 f336 .e) 338 f338 (.n .e 341 f341 .e)))))) 342 f342 (.n (.n (.n (.n (.n (.n .e 343 f343 .e) 344 f344 (.n .e 345 f345 .e)) 346 f346 (.n (.n .e 347 f347 .e) 354 f354 (.n .e 355 f355 .e))) 358 f358 (.n (.n (.n .e 359 f359 .e) 361 f361 (.n .e 362 f362 .e)) 363 f363 (.n (.n .e 365 f365 .e) 366 f366 (.n .e 376 f376 .e)))) 377 f377 (.n (.n (.n (.n .e 379 f379 .e) 390 f390 (.n .e 391 f391 .e)) 392 f392 (.n (.n .e 394 f394 .e) 396 f396 (.n .e 397 f397 .e))) 398 f398 (.n (.n (.n .e 399 f399 .e) 400 f400 (.n .e 401 f401 .e)) 402 f402 (.n (.n .e 403 f403 .e) 408 f408 (.n .e 409 f409 .e))))) 410 f410 (.n (.n (.n (.n (.n .e 411 f411 .e) 413 f413 (.n .e 414 f414 .e)) 416 f416 (.n (.n .e 417 f417 .e) 418 f418 (.n .e 419 f419 .e))) 420 f420 (.n (.n (.n .e 421 f421 .e) 422 f422 (.n .e 435 f435 .e)) 436 f436 (.n (.n .e 438 f438 .e) 439 f439 (.n .e 440 f440 .e)))) 441 f441 (.n (.n (.n (.n .e 444 f444 .e) 446 f446 (.n .e 447 f447 .e)) 448 f448 (.n (.n .e 449 f449 .e) 450 f450 (.n .e 451 f451 .e))) 452 f452 (.n (.n (.n .e 454 f454 .e) 455 f455 (.n .e 457 f457 .e)) 458 f458 (.n (.n .e 463 f463 .e) 464 f464 .e)))))))
theorem tab1_ok : Tr.All SN tab1 := ⟨⟨⟨⟨⟨⟨⟨⟨trivial, s6, trivial⟩, s7, ⟨trivial, s8, trivial⟩⟩, s9, ⟨⟨trivial, s12, trivial⟩, s13, ⟨trivial, s14, trivial⟩⟩⟩, s15, ⟨⟨⟨trivial, s16, trivial⟩, s17, ⟨trivial, s18, trivial⟩⟩, s19, ⟨⟨trivial, s20, trivial⟩, s22, ⟨trivial, s23, trivial⟩⟩⟩⟩, s24, ⟨⟨⟨⟨trivial, s25, trivial⟩, s26, ⟨trivial, s27, trivial⟩⟩, s28, ⟨⟨trivial, s29, trivial⟩, s30, ⟨trivial, s31, trivial⟩⟩⟩, s32, ⟨⟨⟨trivial, s33, trivial⟩, s34, ⟨trivial, s35, trivial⟩⟩, s36, ⟨⟨trivial, s37, trivial⟩, s38, ⟨trivial, s39, trivial⟩⟩⟩⟩⟩, s40, ⟨⟨⟨⟨⟨trivial, s41, trivial⟩, s42, ⟨trivial, s43, trivial⟩⟩, s44, ⟨⟨trivial, s45, trivial⟩, s46, ⟨trivial, s47, trivial⟩⟩⟩, s50, ⟨⟨⟨trivial, s51, trivial⟩, s52, ⟨trivial, s53, trivial⟩⟩, s54, ⟨⟨trivial, s55, trivial⟩, s56, ⟨trivial, s57, trivial⟩⟩⟩⟩, s58, ⟨⟨⟨⟨trivial, s59, trivial⟩, s69, ⟨trivial, s70, trivial⟩⟩, s73, ⟨⟨trivial, s74, trivial⟩, s75, ⟨trivial, s76, trivial⟩⟩⟩, s77, ⟨⟨⟨trivial, s78, trivial⟩, s80, ⟨trivial, s81, trivial⟩⟩, s82, ⟨⟨trivial, s84, trivial⟩, s85, ⟨trivial, s87, trivial⟩⟩⟩⟩⟩⟩, s88, ⟨⟨⟨⟨⟨⟨trivial, s90, trivial⟩, s91, ⟨trivial, s92, trivial⟩⟩, s93, ⟨⟨trivial, s94, trivial⟩, s95, ⟨trivial, s96, trivial⟩⟩⟩, s97, ⟨⟨⟨trivial, s98, trivial⟩, s99, ⟨trivial, s101, trivial⟩⟩, s102, ⟨⟨trivial, s103, trivial⟩, s104, ⟨trivial, s105, trivial⟩⟩⟩⟩, s107, ⟨⟨⟨⟨trivial, s108, trivial⟩, s109, ⟨trivial, s110, trivial⟩⟩, s111, ⟨⟨trivial, s112, trivial⟩, s119, ⟨trivial, s120, trivial⟩⟩⟩, s121, ⟨⟨⟨trivial, s131, trivial⟩, s132, ⟨trivial, s134, trivial⟩⟩, s153, ⟨⟨trivial, s154, trivial⟩, s155, ⟨trivial, s158, trivial⟩⟩⟩⟩⟩, s159, ⟨⟨⟨⟨⟨trivial, s160, trivial⟩, s161, ⟨trivial, s163, trivial⟩⟩, s165, ⟨⟨trivial, s166, trivial⟩, s167, ⟨trivial, s168, trivial⟩⟩⟩, s169, ⟨⟨⟨trivial, s170, trivial⟩, s171, ⟨trivial, s172, trivial⟩⟩, s173, ⟨⟨trivial, s174, trivial⟩, s175, ⟨trivial, s176, trivial⟩⟩⟩⟩, s177, ⟨⟨⟨⟨trivial, s179, trivial⟩, s180, ⟨trivial, s184, trivial⟩⟩, s185, ⟨⟨trivial, s186, trivial⟩, s187, ⟨trivial, s194, trivial⟩⟩⟩, s195, ⟨⟨⟨trivial, s196, trivial⟩, s201, ⟨trivial, s202, trivial⟩⟩, s211, ⟨⟨trivial, s218, trivial⟩, s219, trivial⟩⟩⟩⟩⟩⟩, s220, ⟨⟨⟨⟨⟨⟨⟨trivial, s227, trivial⟩, s228, ⟨trivial, s229, trivial⟩⟩, s230, ⟨⟨trivial, s231, trivial⟩, s232, ⟨trivial, s237, trivial⟩⟩⟩, s238, ⟨⟨⟨trivial, s239, trivial⟩, s240, ⟨trivial, s241, trivial⟩⟩, s242, ⟨⟨trivial, s243, trivial⟩, s244, ⟨trivial, s245, trivial⟩⟩⟩⟩, s246, ⟨⟨⟨⟨trivial, s247, trivial⟩, s248, ⟨trivial, s249, trivial⟩⟩, s250, ⟨⟨trivial, s257, trivial⟩, s261, ⟨trivial, s266, trivial⟩⟩⟩, s267, ⟨⟨⟨trivial, s268, trivial⟩, s269, ⟨trivial, s270, trivial⟩⟩, s271, ⟨⟨trivial, s273, trivial⟩, s275, ⟨trivial, s276, trivial⟩⟩⟩⟩⟩, s277, ⟨⟨⟨⟨⟨trivial, s278, trivial⟩, s282, ⟨trivial, s283, trivial⟩⟩, s284, ⟨⟨trivial, s285, trivial⟩, s287, ⟨trivial, s288, trivial⟩⟩⟩, s289, ⟨⟨⟨trivial, s290, trivial⟩, s295, ⟨trivial, s301, trivial⟩⟩, s308, ⟨⟨trivial, s311, trivial⟩, s315, ⟨trivial, s316, trivial⟩⟩⟩⟩, s317, ⟨⟨⟨⟨trivial, s318, trivial⟩, s319, ⟨trivial, s322, trivial⟩⟩, s326, ⟨⟨trivial, s327, trivial⟩, s328, ⟨trivial, s329, trivial⟩⟩⟩, s330, ⟨⟨⟨trivial, s331, trivial⟩, s332, ⟨trivial, s334, trivial⟩⟩, s335, ⟨⟨trivial, s336, trivial⟩, s338, ⟨trivial, s341, trivial⟩⟩⟩⟩⟩⟩, s342, ⟨⟨⟨⟨⟨⟨trivial, s343, trivial⟩, s344, ⟨trivial, s345, trivial⟩⟩, s346, ⟨⟨trivial, s347, trivial⟩, s354, ⟨trivial, s355, trivial⟩⟩⟩, s358, ⟨⟨⟨trivial, s359, trivial⟩, s361, ⟨trivial, s362, trivial⟩⟩, s363, ⟨⟨trivial, s365, trivial⟩, s366, ⟨trivial, s376, trivial⟩⟩⟩⟩, s377, ⟨⟨⟨⟨trivial, s379, trivial⟩, s390, ⟨trivial, s391, trivial⟩⟩, s392, ⟨⟨trivial, s394, trivial⟩, s396, ⟨trivial, s397, trivial⟩⟩⟩, s398, ⟨⟨⟨trivial, s399, trivial⟩, s400, ⟨trivial, s401, trivial⟩⟩, s402, ⟨⟨trivial, s403, trivial⟩, s408, ⟨trivial, s409, trivial⟩⟩⟩⟩⟩, s410, ⟨⟨⟨⟨⟨trivial, s411, trivial⟩, s413, ⟨trivial, s414, trivial⟩⟩, s416, ⟨⟨trivial, s417, trivial⟩, s418, ⟨trivial, s419, trivial⟩⟩⟩, s420, ⟨⟨⟨trivial, s421, trivial⟩, s422, ⟨trivial, s435, trivial⟩⟩, s436, ⟨⟨trivial, s438, trivial⟩, s439, ⟨trivial, s440, trivial⟩⟩⟩⟩, s441, ⟨⟨⟨⟨trivial, s444, trivial⟩, s446, ⟨trivial, s447, trivial⟩⟩, s448, ⟨⟨trivial, s449, trivial⟩, s450, ⟨trivial, s451, trivial⟩⟩⟩, s452, ⟨⟨⟨trivial, s454, trivial⟩, s455, ⟨trivial, s457, trivial⟩⟩, s458, ⟨⟨trivial, s463, trivial⟩, s464, trivial⟩⟩⟩⟩⟩⟩⟩
theorem tab1_snd : ∀ f fd, tab1.get f = some fd -> Snd (QX X C hC) f fd := fun _ _ h => tab1_ok.get h
end Go.Proofs.YtgaghaggiblabaaGreatDoor.Ev.T
