/- Calls of the function alone, part 5. No condition. -/
import Derived.Test.YtinjiaadlkpamaaGreatDoorSnd
import Derived.Test.YtinjiaadlkpamaaGreatDoorEve
import Derived.Test.YtinjiaadlkpamaaGreatDoorCya
namespace Go.Proofs.YtinjiaadlkpamaaGreatDoor.Ev.T
open Go Go.Proofs Go.Proofs.YtinjiaadlkpamaaGreatDoor Go.Proofs.YtinjiaadlkpamaaGreatDoor.Ev
set_option maxRecDepth 100000
theorem fa1_21 : Knows Tryz.prog 7 in1_21 re1_21 := known_of hty tab1_snd known_none (fuel := 200) (by kernel_rfl) (by kernel_rfl)
theorem fa1_22 : Knows Tryz.prog 7 in1_22 re1_22 := known_of hty tab1_snd known_none (fuel := 200) (by kernel_rfl) (by kernel_rfl)
theorem fa1_23 : Knows Tryz.prog 7 in1_23 re1_23 := known_of hty tab1_snd known_none (fuel := 200) (by kernel_rfl) (by kernel_rfl)
theorem fa1_24 : Knows Tryz.prog 7 in1_24 re1_24 := known_of hty tab1_snd known_none (fuel := 200) (by kernel_rfl) (by kernel_rfl)
theorem fa2_0 : Knows Tryz.prog 7 in2_0 re2_0 := known_of hty tab1_snd known_none (fuel := 200) (by kernel_rfl) (by kernel_rfl)
theorem fa2_1 : Knows Tryz.prog 7 in2_1 re2_1 := known_of hty tab1_snd known_none (fuel := 200) (by kernel_rfl) (by kernel_rfl)
theorem fa2_2 : Knows Tryz.prog 7 in2_2 re2_2 := known_of hty tab1_snd known_none (fuel := 200) (by kernel_rfl) (by kernel_rfl)
theorem fa2_3 : Knows Tryz.prog 7 in2_3 re2_3 := known_of hty tab1_snd known_none (fuel := 200) (by kernel_rfl) (by kernel_rfl)
theorem fa2_4 : Knows Tryz.prog 7 in2_4 re2_4 := known_of hty tab1_snd known_none (fuel := 200) (by kernel_rfl) (by kernel_rfl)
theorem fa2_5 : Knows Tryz.prog 7 in2_5 re2_5 := known_of hty tab1_snd known_none (fuel := 200) (by kernel_rfl) (by kernel_rfl)
end Go.Proofs.YtinjiaadlkpamaaGreatDoor.Ev.T
