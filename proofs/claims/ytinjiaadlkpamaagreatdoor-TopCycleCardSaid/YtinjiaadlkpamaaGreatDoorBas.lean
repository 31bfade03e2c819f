/- Facts of the program's head and types. No condition. -/
import Derived.Test.YtinjiaadlkpamaaGreatDoorFnb
import Derived.Test.YtinjiaadlkpamaaGreatDoorEvd
import Derived.Test.YtinjiaadlkpamaaGreatDoorProg
import Derived.KernelRfl
namespace Go.Proofs.YtinjiaadlkpamaaGreatDoor.Ev.T
open Go Go.Proofs Go.Proofs.YtinjiaadlkpamaaGreatDoor Go.Proofs.YtinjiaadlkpamaaGreatDoor.Ev
set_option maxRecDepth 100000
noncomputable def J : Nat → Option TypeInfo := tyJ Tryz.prog Tryz.types.toList 565
noncomputable def X : Nat × Nat × Nat := (297, 295, 296)
noncomputable def M : I → Oper → Bool := mikJ J 565 (shk Tryz.prog) X
theorem hn : Tryz.prog.types.size = 565 := by kernel_rfl
theorem hl : Tryz.types.toList.length = 565 := by kernel_rfl
theorem hJ : Tryz.prog.info? = J := tyJ_ok (by rfl) hl (by decide)
theorem hty : TyOk Tryz.prog := tyok_of (by rw [hn, hJ]; kernel_rfl)
theorem hX : XsOk Tryz.prog X := ⟨⟨_, Tryz.func297, by kernel_rfl, by kernel_rfl, by kernel_rfl, by kernel_rfl⟩, ⟨_, Tryz.func295, by kernel_rfl, by kernel_rfl, by kernel_rfl, by kernel_rfl⟩, ⟨_, Tryz.func296, by kernel_rfl, by kernel_rfl, by kernel_rfl, by kernel_rfl⟩⟩
theorem hmx : Tryz.prog.follows .mixedOrders = true := by kernel_rfl
end Go.Proofs.YtinjiaadlkpamaaGreatDoor.Ev.T
