/- Steps of a receive: runs, part 1. No condition. -/
import Derived.Test.YtgaghaggiblabaaGreatDoorCob
import Derived.KernelRfl
set_option linter.all false
namespace Go.Proofs.YtgaghaggiblabaaGreatDoor.Ev.T
open Go
set_option maxRecDepth 100000
theorem all1_ok : all1 = true := by kernel_rfl
theorem all2_ok : all2 = true := by kernel_rfl
theorem all6_ok : all6 = true := by kernel_rfl
end Go.Proofs.YtgaghaggiblabaaGreatDoor.Ev.T
namespace Go.Proofs.YtgaghaggiblabaaGreatDoor.Ev.T
open Go
set_option maxRecDepth 100000
theorem all3_1_1 : all3 1 1 = true := by kernel_rfl
theorem all3_1_2 : all3 1 2 = true := by kernel_rfl
theorem all3_1_3 : all3 1 3 = true := by kernel_rfl
theorem all3_1_4 : all3 1 4 = true := by kernel_rfl
theorem all3_1_5 : all3 1 5 = true := by kernel_rfl
theorem all3_1_6 : all3 1 6 = true := by kernel_rfl
end Go.Proofs.YtgaghaggiblabaaGreatDoor.Ev.T
namespace Go.Proofs.YtgaghaggiblabaaGreatDoor.Ev.T
open Go
set_option maxRecDepth 100000
theorem all3_2_1 : all3 2 1 = true := by kernel_rfl
theorem all3_2_2 : all3 2 2 = true := by kernel_rfl
theorem all3_2_3 : all3 2 3 = true := by kernel_rfl
theorem all3_2_4 : all3 2 4 = true := by kernel_rfl
theorem all3_2_5 : all3 2 5 = true := by kernel_rfl
theorem all3_2_6 : all3 2 6 = true := by kernel_rfl
end Go.Proofs.YtgaghaggiblabaaGreatDoor.Ev.T
namespace Go.Proofs.YtgaghaggiblabaaGreatDoor.Ev.T
open Go
set_option maxRecDepth 100000
theorem all3_3_1 : all3 3 1 = true := by kernel_rfl
theorem all3_3_2 : all3 3 2 = true := by kernel_rfl
theorem all3_3_3 : all3 3 3 = true := by kernel_rfl
theorem all3_3_4 : all3 3 4 = true := by kernel_rfl
theorem all3_3_5 : all3 3 5 = true := by kernel_rfl
theorem all3_3_6 : all3 3 6 = true := by kernel_rfl
end Go.Proofs.YtgaghaggiblabaaGreatDoor.Ev.T
