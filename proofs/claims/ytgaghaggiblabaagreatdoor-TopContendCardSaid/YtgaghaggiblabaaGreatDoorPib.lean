/- What Pick gives: runs, part 1. No condition. -/
import Derived.Test.YtgaghaggiblabaaGreatDoorCod
import Derived.KernelRfl
set_option linter.all false
namespace Go.Proofs.YtgaghaggiblabaaGreatDoor.Ev.T
open Go
set_option maxRecDepth 100000
theorem allPick_1 : allPick 1 = true := by kernel_rfl
theorem allPick_2 : allPick 2 = true := by kernel_rfl
theorem allPick_3 : allPick 3 = true := by kernel_rfl
theorem allPick_4 : allPick 4 = true := by kernel_rfl
theorem allPick_5_ff : ((bools 3).all fun dl => cPick 5 (false :: false :: dl)) = true := by kernel_rfl
theorem allPick_5_ft : ((bools 3).all fun dl => cPick 5 (false :: true :: dl)) = true := by kernel_rfl
theorem allPick_5_tf : ((bools 3).all fun dl => cPick 5 (true :: false :: dl)) = true := by kernel_rfl
theorem allPick_5_tt : ((bools 3).all fun dl => cPick 5 (true :: true :: dl)) = true := by kernel_rfl
end Go.Proofs.YtgaghaggiblabaaGreatDoor.Ev.T
