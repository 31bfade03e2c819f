/- Pieces of the first Finish: runs, part 1. No condition. -/
import Derived.Test.YtgaghaggiblabaaGreatDoorBow
import Derived.KernelRfl
set_option linter.all false
namespace Go.Proofs.YtgaghaggiblabaaGreatDoor.Ev.T
open Go
set_option maxRecDepth 100000
theorem pf1_1_0 : chk (((planS 1 1).drop 0).take 13) (wsA 1 1) (w1A 1 1) = true := by kernel_rfl
theorem pf1_5_125 : chk (((planS 1 5).drop 125).take 30) bw1_5_125 (w1A 1 5) = true := by kernel_rfl
theorem pf2_3_46 : chk (((planS 2 3).drop 46).take 20) bw2_3_46 (w1A 2 3) = true := by kernel_rfl
theorem pf2_6_144 : chk (((planS 2 6).drop 144).take 44) bw2_6_144 bw2_6_188 = true := by kernel_rfl
theorem pf3_5_0 : chk (((planS 3 5).drop 0).take 60) (wsA 3 5) bw3_5_60 = true := by kernel_rfl
end Go.Proofs.YtgaghaggiblabaaGreatDoor.Ev.T
