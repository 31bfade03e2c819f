/- What Pick gives: runs, part 2. No condition. -/
import Derived.Test.YtgaghaggiblabaaGreatDoorCod
import Derived.KernelRfl
set_option linter.all false
namespace Go.Proofs.YtgaghaggiblabaaGreatDoor.Ev.T
open Go
set_option maxRecDepth 100000
theorem allPick_6_fff : ((bools 3).all fun dl => cPick 6 (false :: false :: false :: dl)) = true := by kernel_rfl
theorem allPick_6_fft : ((bools 3).all fun dl => cPick 6 (false :: false :: true :: dl)) = true := by kernel_rfl
theorem allPick_6_ftf : ((bools 3).all fun dl => cPick 6 (false :: true :: false :: dl)) = true := by kernel_rfl
theorem allPick_6_ftt : ((bools 3).all fun dl => cPick 6 (false :: true :: true :: dl)) = true := by kernel_rfl
end Go.Proofs.YtgaghaggiblabaaGreatDoor.Ev.T
