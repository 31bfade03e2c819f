/- Pieces of the first Finish: runs, part 6. No condition. -/
import Derived.Test.YtgaghaggiblabaaGreatDoorBow
import Derived.KernelRfl
set_option linter.all false
namespace Go.Proofs.YtgaghaggiblabaaGreatDoor.Ev.T
open Go
set_option maxRecDepth 100000
theorem pf1_4_71 : chk (((planS 1 4).drop 71).take 35) bw1_4_71 (w1A 1 4) = true := by kernel_rfl
theorem pf2_1_0 : chk (((planS 2 1).drop 0).take 13) (wsA 2 1) (w1A 2 1) = true := by kernel_rfl
theorem pf2_5_124 : chk (((planS 2 5).drop 124).take 31) bw2_5_124 (w1A 2 5) = true := by kernel_rfl
theorem pf3_3_46 : chk (((planS 3 3).drop 46).take 20) bw3_3_46 (w1A 3 3) = true := by kernel_rfl
theorem pf3_6_140 : chk (((planS 3 6).drop 140).take 34) bw3_6_140 (w1A 3 6) = true := by kernel_rfl
end Go.Proofs.YtgaghaggiblabaaGreatDoor.Ev.T
