/- Small runs; the plans of the sends. No condition. -/
import Derived.Test.YtgaghaggiblabaaGreatDoorCoh
import Derived.KernelRfl
set_option linter.all false
namespace Go.Proofs.YtgaghaggiblabaaGreatDoor.Ev.T
open Go
set_option maxRecDepth 100000
noncomputable def c7s (live n : Nat) : Bool := and' (rn [] 7 [w1A live n, setupA live] (.bool true)) (and' (rn [] 19 [wsA live n] (i (boundN n : Nat))) (rn [] 12 [w1A live n] (opA [])))
noncomputable def all70 : Bool := (List.range 3).all fun l => rn [] 7 [wsA (l + 1) 0, setupA (l + 1)] (.bool true)
noncomputable def all71 : Bool := (List.range 3).all fun l => (List.range 6).all fun n => c7s (l + 1) (n + 1)
def all72 : Bool := (List.range 3).all fun l => (List.range 6).all fun n => okS (l + 1) (n + 1)
theorem all70_ok : all70 = true := by kernel_rfl
theorem all71_ok : all71 = true := by kernel_rfl
theorem all72_ok : all72 = true := by kernel_rfl
theorem allIdx_ok : allIdx = true := by kernel_rfl
theorem nodup_ok : (subsN 6).all nodupB = true := by kernel_rfl
end Go.Proofs.YtgaghaggiblabaaGreatDoor.Ev.T
