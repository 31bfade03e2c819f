/- Pieces of the first Finish: runs, part 8. No condition. -/
import Derived.Test.YtgaghaggiblabaaGreatDoorBow
import Derived.KernelRfl
set_option linter.all false
namespace Go.Proofs.YtgaghaggiblabaaGreatDoor.Ev.T
open Go
set_option maxRecDepth 100000
theorem pf1_5_77 : chk (((planS 1 5).drop 77).take 48) bw1_5_77 bw1_5_125 = true := by kernel_rfl
theorem pf2_3_0 : chk (((planS 2 3).drop 0).take 46) (wsA 2 3) bw2_3_46 = true := by kernel_rfl
theorem pf2_6_80 : chk (((planS 2 6).drop 80).take 64) bw2_6_80 bw2_6_144 = true := by kernel_rfl
theorem pf3_4_61 : chk (((planS 3 4).drop 61).take 24) bw3_4_61 (w1A 3 4) = true := by kernel_rfl
end Go.Proofs.YtgaghaggiblabaaGreatDoor.Ev.T
