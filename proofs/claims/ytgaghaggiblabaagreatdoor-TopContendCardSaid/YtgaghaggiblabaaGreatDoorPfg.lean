/- Pieces of the first Finish: runs, part 7. No condition. -/
import Derived.Test.YtgaghaggiblabaaGreatDoorBow
import Derived.KernelRfl
set_option linter.all false
namespace Go.Proofs.YtgaghaggiblabaaGreatDoor.Ev.T
open Go
set_option maxRecDepth 100000
theorem pf1_5_0 : chk (((planS 1 5).drop 0).take 77) (wsA 1 5) bw1_5_77 = true := by kernel_rfl
theorem pf2_2_0 : chk (((planS 2 2).drop 0).take 35) (wsA 2 2) (w1A 2 2) = true := by kernel_rfl
theorem pf2_6_0 : chk (((planS 2 6).drop 0).take 80) (wsA 2 6) bw2_6_80 = true := by kernel_rfl
theorem pf3_4_0 : chk (((planS 3 4).drop 0).take 61) (wsA 3 4) bw3_4_61 = true := by kernel_rfl
end Go.Proofs.YtgaghaggiblabaaGreatDoor.Ev.T
