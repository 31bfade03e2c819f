/- Steps of a receive: runs, part 3. No condition. -/
import Derived.Test.YtgaghaggiblabaaGreatDoorCob
import Derived.KernelRfl
set_option linter.all false
namespace Go.Proofs.YtgaghaggiblabaaGreatDoor.Ev.T
open Go
set_option maxRecDepth 100000
theorem all5_1_1 : all5 1 1 = true := by kernel_rfl
theorem all5_1_2 : all5 1 2 = true := by kernel_rfl
theorem all5_1_3 : all5 1 3 = true := by kernel_rfl
theorem all5_1_4 : all5 1 4 = true := by kernel_rfl
theorem all5_1_5 : all5 1 5 = true := by kernel_rfl
theorem all5_1_6 : all5 1 6 = true := by kernel_rfl
end Go.Proofs.YtgaghaggiblabaaGreatDoor.Ev.T
namespace Go.Proofs.YtgaghaggiblabaaGreatDoor.Ev.T
open Go
set_option maxRecDepth 100000
theorem all5_2_1 : all5 2 1 = true := by kernel_rfl
theorem all5_2_2 : all5 2 2 = true := by kernel_rfl
theorem all5_2_3 : all5 2 3 = true := by kernel_rfl
theorem all5_2_4 : all5 2 4 = true := by kernel_rfl
theorem all5_2_5 : all5 2 5 = true := by kernel_rfl
theorem all5_2_6 : all5 2 6 = true := by kernel_rfl
end Go.Proofs.YtgaghaggiblabaaGreatDoor.Ev.T
