/- New, the sends, Parse: runs. No condition. -/
import Derived.Test.YtgaghaggiblabaaGreatDoorCoe
import Derived.KernelRfl
set_option linter.all false
namespace Go.Proofs.YtgaghaggiblabaaGreatDoor.Ev.T
open Go
set_option maxRecDepth 100000
theorem all7_ok : all7 = true := by kernel_rfl
theorem all8_ok : all8 = true := by kernel_rfl
end Go.Proofs.YtgaghaggiblabaaGreatDoor.Ev.T
