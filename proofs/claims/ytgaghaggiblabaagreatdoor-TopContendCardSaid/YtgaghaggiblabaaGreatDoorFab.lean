/- Runs of Expire, Take and End, part 2. No condition. -/
import Derived.Test.YtgaghaggiblabaaGreatDoorCoa
import Derived.KernelRfl
set_option linter.all false
namespace Go.Proofs.YtgaghaggiblabaaGreatDoor.Ev.T
open Go
set_option maxRecDepth 100000
theorem allE_2_1 : allE 2 1 = true := by kernel_rfl
theorem allE_2_2 : allE 2 2 = true := by kernel_rfl
theorem allE_2_3 : allE 2 3 = true := by kernel_rfl
theorem allE_2_4 : allE 2 4 = true := by kernel_rfl
theorem allE_2_5 : allE 2 5 = true := by kernel_rfl
theorem allE_2_6 : allE 2 6 = true := by kernel_rfl
end Go.Proofs.YtgaghaggiblabaaGreatDoor.Ev.T
namespace Go.Proofs.YtgaghaggiblabaaGreatDoor.Ev.T
open Go
set_option maxRecDepth 100000
theorem allN_2_1 : allN 2 1 = true := by kernel_rfl
theorem allN_2_2 : allN 2 2 = true := by kernel_rfl
theorem allN_2_3 : allN 2 3 = true := by kernel_rfl
theorem allN_2_4 : allN 2 4 = true := by kernel_rfl
theorem allN_2_5 : allN 2 5 = true := by kernel_rfl
theorem allN_2_6 : allN 2 6 = true := by kernel_rfl
end Go.Proofs.YtgaghaggiblabaaGreatDoor.Ev.T
