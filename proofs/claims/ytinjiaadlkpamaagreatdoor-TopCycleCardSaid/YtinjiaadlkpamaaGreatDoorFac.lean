/- Calls of the function alone, part 3. No condition. -/
import Derived.Test.YtinjiaadlkpamaaGreatDoorSnd
import Derived.Test.YtinjiaadlkpamaaGreatDoorEve
import Derived.Test.YtinjiaadlkpamaaGreatDoorCya
namespace Go.Proofs.YtinjiaadlkpamaaGreatDoor.Ev.T
open Go Go.Proofs Go.Proofs.YtinjiaadlkpamaaGreatDoor Go.Proofs.YtinjiaadlkpamaaGreatDoor.Ev
set_option maxRecDepth 100000
theorem fa1_1 : Knows Tryz.prog 7 in1_1 re1_1 := known_of hty tab1_snd known_none (fuel := 200) (by kernel_rfl) (by kernel_rfl)
theorem fa1_2 : Knows Tryz.prog 7 in1_2 re1_2 := known_of hty tab1_snd known_none (fuel := 200) (by kernel_rfl) (by kernel_rfl)
theorem fa1_3 : Knows Tryz.prog 7 in1_3 re1_3 := known_of hty tab1_snd known_none (fuel := 200) (by kernel_rfl) (by kernel_rfl)
theorem fa1_4 : Knows Tryz.prog 7 in1_4 re1_4 := known_of hty tab1_snd known_none (fuel := 200) (by kernel_rfl) (by kernel_rfl)
theorem fa1_5 : Knows Tryz.prog 7 in1_5 re1_5 := known_of hty tab1_snd known_none (fuel := 200) (by kernel_rfl) (by kernel_rfl)
theorem fa1_6 : Knows Tryz.prog 7 in1_6 re1_6 := known_of hty tab1_snd known_none (fuel := 200) (by kernel_rfl) (by kernel_rfl)
theorem fa1_7 : Knows Tryz.prog 7 in1_7 re1_7 := known_of hty tab1_snd known_none (fuel := 200) (by kernel_rfl) (by kernel_rfl)
theorem fa1_8 : Knows Tryz.prog 7 in1_8 re1_8 := known_of hty tab1_snd known_none (fuel := 200) (by kernel_rfl) (by kernel_rfl)
theorem fa1_9 : Knows Tryz.prog 7 in1_9 re1_9 := known_of hty tab1_snd known_none (fuel := 200) (by kernel_rfl) (by kernel_rfl)
theorem fa1_10 : Knows Tryz.prog 7 in1_10 re1_10 := known_of hty tab1_snd known_none (fuel := 200) (by kernel_rfl) (by kernel_rfl)
end Go.Proofs.YtinjiaadlkpamaaGreatDoor.Ev.T
