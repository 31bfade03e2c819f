/- The function awake returns true. No condition. -/
import Derived.Test.YtgaghaggiblabaaGreatDoorSnd
import Derived.Test.YtgaghaggiblabaaGreatDoorCop
import Derived.Test.YtgaghaggiblabaaGreatDoorOnc
import Derived.Test.YtgaghaggiblabaaGreatDoorEve
set_option linter.all false
namespace Go.Proofs.YtgaghaggiblabaaGreatDoor.Ev.T
open Go Go.Proofs Go.Proofs.YtgaghaggiblabaaGreatDoor Go.Proofs.YtgaghaggiblabaaGreatDoor.Ev
set_option maxRecDepth 100000
variable {X : Nat -> AV} {NN : Nat -> Int} {hC : HC NN}
theorem s49 : Snd (QX X NN hC) 49 f49' := snd49 hty hmx hX hJ hn (fun h => h)
theorem s79 : Snd (QX X NN hC) 79 Ev.f60 := on_snd hty
theorem s89 : Snd (QX X NN hC) 89 f89' := snd89 hty hmx hX hJ hn (fun h => h) (fun h => h)
noncomputable def tab2 (f : Nat) : Option FD := Bool.rec (Bool.rec (Bool.rec (tab1.get f) (some f89') (Nat.beq f 89)) (some Ev.f60) (Nat.beq f 79)) (some f49') (Nat.beq f 49)
theorem tab2_snd : ∀ f fd, tab2 f = some fd -> Snd (QX X NN hC) f fd := by
 intro f fd h
 unfold tab2 at h
 cases e1 : Nat.beq f 49 with
 | true => rw [e1] at h; cases h; rw [beq_true.1 e1]; exact s49
 | false =>
  rw [e1] at h
  cases e2 : Nat.beq f 79 with
  | true => rw [e2] at h; cases h; rw [beq_true.1 e2]; exact s79
  | false =>
   rw [e2] at h
   cases e3 : Nat.beq f 89 with
   | true => rw [e3] at h; cases h; rw [beq_true.1 e3]; exact s89
   | false => rw [e3] at h; exact tab1_snd f fd h
theorem aw : Knows (QX X NN hC) 15 [] (.bool true) := known_of hty tab2_snd known_none (fuel := 200) (by kernel_rfl) (by kernel_rfl)
end Go.Proofs.YtgaghaggiblabaaGreatDoor.Ev.T
