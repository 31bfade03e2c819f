/- Steps of a receive: runs, part 4. No condition. -/
import Derived.Test.YtgaghaggiblabaaGreatDoorCob
import Derived.KernelRfl
set_option linter.all false
namespace Go.Proofs.YtgaghaggiblabaaGreatDoor.Ev.T
open Go
set_option maxRecDepth 100000
theorem all5_3_1 : all5 3 1 = true := by kernel_rfl
theorem all5_3_2 : all5 3 2 = true := by kernel_rfl
theorem all5_3_3 : all5 3 3 = true := by kernel_rfl
theorem all5_3_4 : all5 3 4 = true := by kernel_rfl
theorem all5_3_5 : all5 3 5 = true := by kernel_rfl
theorem all5_3_6 : all5 3 6 = true := by kernel_rfl
end Go.Proofs.YtgaghaggiblabaaGreatDoor.Ev.T
