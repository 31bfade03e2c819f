/- Pieces of the first Finish: runs, part 2. No condition. -/
import Derived.Test.YtgaghaggiblabaaGreatDoorBow
import Derived.KernelRfl
set_option linter.all false
namespace Go.Proofs.YtgaghaggiblabaaGreatDoor.Ev.T
open Go
set_option maxRecDepth 100000
theorem pf1_2_0 : chk (((planS 1 2).drop 0).take 35) (wsA 1 2) (w1A 1 2) = true := by kernel_rfl
theorem pf1_6_0 : chk (((planS 1 6).drop 0).take 82) (wsA 1 6) bw1_6_82 = true := by kernel_rfl
theorem pf2_4_0 : chk (((planS 2 4).drop 0).take 71) (wsA 2 4) bw2_4_71 = true := by kernel_rfl
theorem pf2_6_188 : chk (((planS 2 6).drop 188).take 25) bw2_6_188 (w1A 2 6) = true := by kernel_rfl
theorem pf3_5_60 : chk (((planS 3 5).drop 60).take 41) bw3_5_60 bw3_5_101 = true := by kernel_rfl
end Go.Proofs.YtgaghaggiblabaaGreatDoor.Ev.T
