/- What Pick gives: runs, part 3. No condition. -/
import Derived.Test.YtgaghaggiblabaaGreatDoorCod
import Derived.KernelRfl
set_option linter.all false
namespace Go.Proofs.YtgaghaggiblabaaGreatDoor.Ev.T
open Go
set_option maxRecDepth 100000
theorem allPick_6_tff : ((bools 3).all fun dl => cPick 6 (true :: false :: false :: dl)) = true := by kernel_rfl
theorem allPick_6_tft : ((bools 3).all fun dl => cPick 6 (true :: false :: true :: dl)) = true := by kernel_rfl
theorem allPick_6_ttf : ((bools 3).all fun dl => cPick 6 (true :: true :: false :: dl)) = true := by kernel_rfl
theorem allPick_6_ttt : ((bools 3).all fun dl => cPick 6 (true :: true :: true :: dl)) = true := by kernel_rfl
end Go.Proofs.YtgaghaggiblabaaGreatDoor.Ev.T
