/- What Open, Index and sane give: runs. No condition. -/
import Derived.Test.YtgaghaggiblabaaGreatDoorCod
import Derived.KernelRfl
set_option linter.all false
namespace Go.Proofs.YtgaghaggiblabaaGreatDoor.Ev.T
open Go
set_option maxRecDepth 100000
theorem allOpen_1 : allOpen 1 = true := by kernel_rfl
theorem allIndex_1 : allIndex 1 = true := by kernel_rfl
theorem allOpen_2 : allOpen 2 = true := by kernel_rfl
theorem allIndex_2 : allIndex 2 = true := by kernel_rfl
theorem allOpen_3 : allOpen 3 = true := by kernel_rfl
theorem allIndex_3 : allIndex 3 = true := by kernel_rfl
theorem allOpen_4 : allOpen 4 = true := by kernel_rfl
theorem allIndex_4 : allIndex 4 = true := by kernel_rfl
theorem allOpen_5 : allOpen 5 = true := by kernel_rfl
theorem allIndex_5 : allIndex 5 = true := by kernel_rfl
theorem allOpen_6 : allOpen 6 = true := by kernel_rfl
theorem allIndex_6 : allIndex 6 = true := by kernel_rfl
noncomputable def allSane : Bool := (List.range 3).all fun l => (List.range 13).all fun m => cSane (l + 1) m
theorem allSane_ok : allSane = true := by kernel_rfl
end Go.Proofs.YtgaghaggiblabaaGreatDoor.Ev.T
