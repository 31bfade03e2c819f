/- Facts of the program's head and types. No condition. -/
import Derived.Test.YtgaghaggiblabaaGreatDoorFna
import Derived.Test.YtgaghaggiblabaaGreatDoorOnc
import Derived.Test.YtgaghaggiblabaaGreatDoorProg
import Derived.KernelRfl
set_option linter.all false
namespace Go.Proofs.YtgaghaggiblabaaGreatDoor.Ev.T
open Go Go.Proofs Go.Proofs.YtgaghaggiblabaaGreatDoor Go.Proofs.YtgaghaggiblabaaGreatDoor.Ev
set_option maxRecDepth 100000
noncomputable def J (Q : PX) : Nat -> Option TypeInfo := tyJ Q Tryz.types.toList 568
noncomputable def XS : Nat × Nat × Nat := (256, 254, 255)
noncomputable def M (Q : PX) : I -> Oper -> Bool := mikJ (J Q) 568 (shk Q) XS
variable {X : Nat -> AV} {C : Nat -> Int} {hC : HC C}
theorem hn : (QX X C hC).types.size = 568 := by kernel_rfl
theorem hl : Tryz.types.toList.length = 568 := by kernel_rfl
theorem hJ : (QX X C hC).info? = J (QX X C hC) := tyJ_ok (P := QX X C hC) (by rfl) hl (by decide)
theorem hty : TyOk (QX X C hC) := tyok_of (by rw [hn, hJ]; kernel_rfl)
theorem hX : XsOk (QX X C hC) XS := ⟨⟨_, Tryz.func256, by kernel_rfl, by kernel_rfl, by kernel_rfl, by kernel_rfl⟩, ⟨_, Tryz.func254, by kernel_rfl, by kernel_rfl, by kernel_rfl, by kernel_rfl⟩, ⟨_, Tryz.func255, by kernel_rfl, by kernel_rfl, by kernel_rfl, by kernel_rfl⟩⟩
theorem hmx : (QX X C hC).follows .mixedOrders = true := by kernel_rfl
end Go.Proofs.YtgaghaggiblabaaGreatDoor.Ev.T
