/- Steps of a receive: runs, part 2. No condition. -/
import Derived.Test.YtgaghaggiblabaaGreatDoorCob
import Derived.KernelRfl
set_option linter.all false
namespace Go.Proofs.YtgaghaggiblabaaGreatDoor.Ev.T
open Go
set_option maxRecDepth 100000
theorem all4_1_1 : all4 1 1 = true := by kernel_rfl
theorem all4_1_2 : all4 1 2 = true := by kernel_rfl
theorem all4_1_3 : all4 1 3 = true := by kernel_rfl
theorem all4_1_4 : all4 1 4 = true := by kernel_rfl
theorem all4_1_5 : all4 1 5 = true := by kernel_rfl
theorem all4_1_6 : all4 1 6 = true := by kernel_rfl
end Go.Proofs.YtgaghaggiblabaaGreatDoor.Ev.T
namespace Go.Proofs.YtgaghaggiblabaaGreatDoor.Ev.T
open Go
set_option maxRecDepth 100000
theorem all4_2_1 : all4 2 1 = true := by kernel_rfl
theorem all4_2_2 : all4 2 2 = true := by kernel_rfl
theorem all4_2_3 : all4 2 3 = true := by kernel_rfl
theorem all4_2_4 : all4 2 4 = true := by kernel_rfl
theorem all4_2_5 : all4 2 5 = true := by kernel_rfl
theorem all4_2_6 : all4 2 6 = true := by kernel_rfl
end Go.Proofs.YtgaghaggiblabaaGreatDoor.Ev.T
namespace Go.Proofs.YtgaghaggiblabaaGreatDoor.Ev.T
open Go
set_option maxRecDepth 100000
theorem all4_3_1 : all4 3 1 = true := by kernel_rfl
theorem all4_3_2 : all4 3 2 = true := by kernel_rfl
theorem all4_3_3 : all4 3 3 = true := by kernel_rfl
theorem all4_3_4 : all4 3 4 = true := by kernel_rfl
theorem all4_3_5 : all4 3 5 = true := by kernel_rfl
theorem all4_3_6 : all4 3 6 = true := by kernel_rfl
end Go.Proofs.YtgaghaggiblabaaGreatDoor.Ev.T
