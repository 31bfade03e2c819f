/- Pieces of the first Finish: runs, part 5. No condition. -/
import Derived.Test.YtgaghaggiblabaaGreatDoorBow
import Derived.KernelRfl
set_option linter.all false
namespace Go.Proofs.YtgaghaggiblabaaGreatDoor.Ev.T
open Go
set_option maxRecDepth 100000
theorem pf1_4_0 : chk (((planS 1 4).drop 0).take 71) (wsA 1 4) bw1_4_71 = true := by kernel_rfl
theorem pf1_6_188 : chk (((planS 1 6).drop 188).take 25) bw1_6_188 (w1A 1 6) = true := by kernel_rfl
theorem pf2_5_76 : chk (((planS 2 5).drop 76).take 48) bw2_5_76 bw2_5_124 = true := by kernel_rfl
theorem pf3_3_0 : chk (((planS 3 3).drop 0).take 46) (wsA 3 3) bw3_3_46 = true := by kernel_rfl
theorem pf3_6_87 : chk (((planS 3 6).drop 87).take 53) bw3_6_87 bw3_6_140 = true := by kernel_rfl
end Go.Proofs.YtgaghaggiblabaaGreatDoor.Ev.T
