/- Runs of Expire, Take and End, part 1. No condition. -/
import Derived.Test.YtgaghaggiblabaaGreatDoorCoa
import Derived.KernelRfl
set_option linter.all false
namespace Go.Proofs.YtgaghaggiblabaaGreatDoor.Ev.T
open Go
set_option maxRecDepth 100000
theorem allE_1_1 : allE 1 1 = true := by kernel_rfl
theorem allE_1_2 : allE 1 2 = true := by kernel_rfl
theorem allE_1_3 : allE 1 3 = true := by kernel_rfl
theorem allE_1_4 : allE 1 4 = true := by kernel_rfl
theorem allE_1_5 : allE 1 5 = true := by kernel_rfl
theorem allE_1_6 : allE 1 6 = true := by kernel_rfl
end Go.Proofs.YtgaghaggiblabaaGreatDoor.Ev.T
namespace Go.Proofs.YtgaghaggiblabaaGreatDoor.Ev.T
open Go
set_option maxRecDepth 100000
theorem allN_1_1 : allN 1 1 = true := by kernel_rfl
theorem allN_1_2 : allN 1 2 = true := by kernel_rfl
theorem allN_1_3 : allN 1 3 = true := by kernel_rfl
theorem allN_1_4 : allN 1 4 = true := by kernel_rfl
theorem allN_1_5 : allN 1 5 = true := by kernel_rfl
theorem allN_1_6 : allN 1 6 = true := by kernel_rfl
end Go.Proofs.YtgaghaggiblabaaGreatDoor.Ev.T
