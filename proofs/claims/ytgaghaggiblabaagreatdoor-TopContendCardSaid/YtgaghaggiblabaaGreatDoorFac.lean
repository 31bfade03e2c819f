/- Runs of Expire, Take and End, part 3. No condition. -/
import Derived.Test.YtgaghaggiblabaaGreatDoorCoa
import Derived.KernelRfl
set_option linter.all false
namespace Go.Proofs.YtgaghaggiblabaaGreatDoor.Ev.T
open Go
set_option maxRecDepth 100000
theorem allE_3_1 : allE 3 1 = true := by kernel_rfl
theorem allE_3_2 : allE 3 2 = true := by kernel_rfl
theorem allE_3_3 : allE 3 3 = true := by kernel_rfl
theorem allE_3_4 : allE 3 4 = true := by kernel_rfl
theorem allE_3_5 : allE 3 5 = true := by kernel_rfl
theorem allE_3_6 : allE 3 6 = true := by kernel_rfl
end Go.Proofs.YtgaghaggiblabaaGreatDoor.Ev.T
namespace Go.Proofs.YtgaghaggiblabaaGreatDoor.Ev.T
open Go
set_option maxRecDepth 100000
theorem allN_3_1 : allN 3 1 = true := by kernel_rfl
theorem allN_3_2 : allN 3 2 = true := by kernel_rfl
theorem allN_3_3 : allN 3 3 = true := by kernel_rfl
theorem allN_3_4 : allN 3 4 = true := by kernel_rfl
theorem allN_3_5 : allN 3 5 = true := by kernel_rfl
theorem allN_3_6 : allN 3 6 = true := by kernel_rfl
end Go.Proofs.YtgaghaggiblabaaGreatDoor.Ev.T
