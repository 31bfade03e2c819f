/- Calls of the function alone, part 7. No condition. -/
import Derived.Test.YtinjiaadlkpamaaGreatDoorSnd
import Derived.Test.YtinjiaadlkpamaaGreatDoorEve
import Derived.Test.YtinjiaadlkpamaaGreatDoorCya
namespace Go.Proofs.YtinjiaadlkpamaaGreatDoor.Ev.T
open Go Go.Proofs Go.Proofs.YtinjiaadlkpamaaGreatDoor Go.Proofs.YtinjiaadlkpamaaGreatDoor.Ev
set_option maxRecDepth 100000
theorem fa2_16 : Knows Tryz.prog 7 in2_16 re2_16 := known_of hty tab1_snd known_none (fuel := 200) (by kernel_rfl) (by kernel_rfl)
theorem fa2_17 : Knows Tryz.prog 7 in2_17 re2_17 := known_of hty tab1_snd known_none (fuel := 200) (by kernel_rfl) (by kernel_rfl)
theorem fa2_18 : Knows Tryz.prog 7 in2_18 re2_18 := known_of hty tab1_snd known_none (fuel := 200) (by kernel_rfl) (by kernel_rfl)
theorem fa2_19 : Knows Tryz.prog 7 in2_19 re2_19 := known_of hty tab1_snd known_none (fuel := 200) (by kernel_rfl) (by kernel_rfl)
theorem fa2_20 : Knows Tryz.prog 7 in2_20 re2_20 := known_of hty tab1_snd known_none (fuel := 200) (by kernel_rfl) (by kernel_rfl)
theorem fa2_21 : Knows Tryz.prog 7 in2_21 re2_21 := known_of hty tab1_snd known_none (fuel := 200) (by kernel_rfl) (by kernel_rfl)
theorem fa2_22 : Knows Tryz.prog 7 in2_22 re2_22 := known_of hty tab1_snd known_none (fuel := 200) (by kernel_rfl) (by kernel_rfl)
theorem fa2_23 : Knows Tryz.prog 7 in2_23 re2_23 := known_of hty tab1_snd known_none (fuel := 200) (by kernel_rfl) (by kernel_rfl)
theorem fa2_24 : Knows Tryz.prog 7 in2_24 re2_24 := known_of hty tab1_snd known_none (fuel := 200) (by kernel_rfl) (by kernel_rfl)
theorem fa2_25 : Knows Tryz.prog 7 in2_25 re2_25 := known_of hty tab1_snd known_none (fuel := 200) (by kernel_rfl) (by kernel_rfl)
end Go.Proofs.YtinjiaadlkpamaaGreatDoor.Ev.T
