/- Calls of the function alone, part 1. No condition. -/
import Derived.Test.YtinjiaadlkpamaaGreatDoorSnd
import Derived.Test.YtinjiaadlkpamaaGreatDoorEve
import Derived.Test.YtinjiaadlkpamaaGreatDoorCya
namespace Go.Proofs.YtinjiaadlkpamaaGreatDoor.Ev.T
open Go Go.Proofs Go.Proofs.YtinjiaadlkpamaaGreatDoor Go.Proofs.YtinjiaadlkpamaaGreatDoor.Ev
set_option maxRecDepth 100000
theorem fa0_0 : Knows Tryz.prog 7 in0_0 re0_0 := known_of hty tab1_snd known_none (fuel := 200) (by kernel_rfl) (by kernel_rfl)
theorem fa0_1 : Knows Tryz.prog 7 in0_1 re0_1 := known_of hty tab1_snd known_none (fuel := 200) (by kernel_rfl) (by kernel_rfl)
theorem fa0_2 : Knows Tryz.prog 7 in0_2 re0_2 := known_of hty tab1_snd known_none (fuel := 200) (by kernel_rfl) (by kernel_rfl)
theorem fa0_3 : Knows Tryz.prog 7 in0_3 re0_3 := known_of hty tab1_snd known_none (fuel := 200) (by kernel_rfl) (by kernel_rfl)
theorem fa0_4 : Knows Tryz.prog 7 in0_4 re0_4 := known_of hty tab1_snd known_none (fuel := 200) (by kernel_rfl) (by kernel_rfl)
theorem fa0_5 : Knows Tryz.prog 7 in0_5 re0_5 := known_of hty tab1_snd known_none (fuel := 200) (by kernel_rfl) (by kernel_rfl)
theorem fa0_6 : Knows Tryz.prog 7 in0_6 re0_6 := known_of hty tab1_snd known_none (fuel := 200) (by kernel_rfl) (by kernel_rfl)
theorem fa0_7 : Knows Tryz.prog 7 in0_7 re0_7 := known_of hty tab1_snd known_none (fuel := 200) (by kernel_rfl) (by kernel_rfl)
theorem fa0_8 : Knows Tryz.prog 7 in0_8 re0_8 := known_of hty tab1_snd known_none (fuel := 200) (by kernel_rfl) (by kernel_rfl)
theorem fa0_9 : Knows Tryz.prog 7 in0_9 re0_9 := known_of hty tab1_snd known_none (fuel := 200) (by kernel_rfl) (by kernel_rfl)
end Go.Proofs.YtinjiaadlkpamaaGreatDoor.Ev.T
