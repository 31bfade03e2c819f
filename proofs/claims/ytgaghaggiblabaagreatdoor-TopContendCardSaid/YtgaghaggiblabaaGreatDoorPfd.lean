/- Pieces of the first Finish: runs, part 4. No condition. -/
import Derived.Test.YtgaghaggiblabaaGreatDoorBow
import Derived.KernelRfl
set_option linter.all false
namespace Go.Proofs.YtgaghaggiblabaaGreatDoor.Ev.T
open Go
set_option maxRecDepth 100000
theorem pf1_3_47 : chk (((planS 1 3).drop 47).take 19) bw1_3_47 (w1A 1 3) = true := by kernel_rfl
theorem pf1_6_144 : chk (((planS 1 6).drop 144).take 44) bw1_6_144 bw1_6_188 = true := by kernel_rfl
theorem pf2_5_0 : chk (((planS 2 5).drop 0).take 76) (wsA 2 5) bw2_5_76 = true := by kernel_rfl
theorem pf3_2_0 : chk (((planS 3 2).drop 0).take 35) (wsA 3 2) (w1A 3 2) = true := by kernel_rfl
theorem pf3_6_0 : chk (((planS 3 6).drop 0).take 87) (wsA 3 6) bw3_6_87 = true := by kernel_rfl
end Go.Proofs.YtgaghaggiblabaaGreatDoor.Ev.T
