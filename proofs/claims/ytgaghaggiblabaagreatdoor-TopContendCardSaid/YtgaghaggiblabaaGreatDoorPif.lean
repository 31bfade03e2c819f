/- Invoke of a receive, Bound: runs. No condition. -/
import Derived.Test.YtgaghaggiblabaaGreatDoorCof
import Derived.KernelRfl
set_option linter.all false
namespace Go.Proofs.YtgaghaggiblabaaGreatDoor.Ev.T
open Go
set_option maxRecDepth 100000
theorem allInvR_1_1 : allInvR 1 1 = true := by kernel_rfl
theorem allInvR_1_2 : allInvR 1 2 = true := by kernel_rfl
theorem allInvR_1_3 : allInvR 1 3 = true := by kernel_rfl
theorem allInvR_1_4 : allInvR 1 4 = true := by kernel_rfl
theorem allInvR_1_5 : allInvR 1 5 = true := by kernel_rfl
theorem allInvR_1_6 : allInvR 1 6 = true := by kernel_rfl
theorem allInvR_2_1 : allInvR 2 1 = true := by kernel_rfl
theorem allInvR_2_2 : allInvR 2 2 = true := by kernel_rfl
theorem allInvR_2_3 : allInvR 2 3 = true := by kernel_rfl
theorem allInvR_2_4 : allInvR 2 4 = true := by kernel_rfl
theorem allInvR_2_5 : allInvR 2 5 = true := by kernel_rfl
theorem allInvR_2_6 : allInvR 2 6 = true := by kernel_rfl
theorem allInvR_3_1 : allInvR 3 1 = true := by kernel_rfl
theorem allInvR_3_2 : allInvR 3 2 = true := by kernel_rfl
theorem allInvR_3_3 : allInvR 3 3 = true := by kernel_rfl
theorem allInvR_3_4 : allInvR 3 4 = true := by kernel_rfl
theorem allInvR_3_5 : allInvR 3 5 = true := by kernel_rfl
theorem allInvR_3_6 : allInvR 3 6 = true := by kernel_rfl
theorem allBound_1 : allBound 1 = true := by kernel_rfl
theorem allBound_2 : allBound 2 = true := by kernel_rfl
theorem allBound_3 : allBound 3 = true := by kernel_rfl
theorem allBound_4 : allBound 4 = true := by kernel_rfl
theorem allBound_5 : allBound 5 = true := by kernel_rfl
theorem allBound_6 : allBound 6 = true := by kernel_rfl
end Go.Proofs.YtgaghaggiblabaaGreatDoor.Ev.T
