/- Calls of the function alone, part 8. No condition. -/
import Derived.Test.YtinjiaadlkpamaaGreatDoorSnd
import Derived.Test.YtinjiaadlkpamaaGreatDoorEve
import Derived.Test.YtinjiaadlkpamaaGreatDoorCya
namespace Go.Proofs.YtinjiaadlkpamaaGreatDoor.Ev.T
open Go Go.Proofs Go.Proofs.YtinjiaadlkpamaaGreatDoor Go.Proofs.YtinjiaadlkpamaaGreatDoor.Ev
set_option maxRecDepth 100000
theorem fa2_26 : Knows Tryz.prog 7 in2_26 re2_26 := known_of hty tab1_snd known_none (fuel := 200) (by kernel_rfl) (by kernel_rfl)
theorem fa2_27 : Knows Tryz.prog 7 in2_27 re2_27 := known_of hty tab1_snd known_none (fuel := 200) (by kernel_rfl) (by kernel_rfl)
theorem fa2_28 : Knows Tryz.prog 7 in2_28 re2_28 := known_of hty tab1_snd known_none (fuel := 200) (by kernel_rfl) (by kernel_rfl)
theorem fa2_29 : Knows Tryz.prog 7 in2_29 re2_29 := known_of hty tab1_snd known_none (fuel := 200) (by kernel_rfl) (by kernel_rfl)
theorem fa2_30 : Knows Tryz.prog 7 in2_30 re2_30 := known_of hty tab1_snd known_none (fuel := 200) (by kernel_rfl) (by kernel_rfl)
end Go.Proofs.YtinjiaadlkpamaaGreatDoor.Ev.T
