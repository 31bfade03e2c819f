/- Pieces of the first Finish: runs, part 3. No condition. -/
import Derived.Test.YtgaghaggiblabaaGreatDoorBow
import Derived.KernelRfl
set_option linter.all false
namespace Go.Proofs.YtgaghaggiblabaaGreatDoor.Ev.T
open Go
set_option maxRecDepth 100000
theorem pf1_3_0 : chk (((planS 1 3).drop 0).take 47) (wsA 1 3) bw1_3_47 = true := by kernel_rfl
theorem pf1_6_82 : chk (((planS 1 6).drop 82).take 62) bw1_6_82 bw1_6_144 = true := by kernel_rfl
theorem pf2_4_71 : chk (((planS 2 4).drop 71).take 35) bw2_4_71 (w1A 2 4) = true := by kernel_rfl
theorem pf3_1_0 : chk (((planS 3 1).drop 0).take 13) (wsA 3 1) (w1A 3 1) = true := by kernel_rfl
theorem pf3_5_101 : chk (((planS 3 5).drop 101).take 24) bw3_5_101 (w1A 3 5) = true := by kernel_rfl
end Go.Proofs.YtgaghaggiblabaaGreatDoor.Ev.T
