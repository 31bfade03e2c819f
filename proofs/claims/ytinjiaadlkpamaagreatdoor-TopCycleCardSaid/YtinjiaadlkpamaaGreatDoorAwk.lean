/- The function awake returns true. No condition. -/
import Derived.Test.YtinjiaadlkpamaaGreatDoorSnd
import Derived.Test.YtinjiaadlkpamaaGreatDoorCop
import Derived.Test.YtinjiaadlkpamaaGreatDoorOnc
import Derived.Test.YtinjiaadlkpamaaGreatDoorEve
namespace Go.Proofs.YtinjiaadlkpamaaGreatDoor.Ev.T
open Go Go.Proofs Go.Proofs.YtinjiaadlkpamaaGreatDoor Go.Proofs.YtinjiaadlkpamaaGreatDoor.Ev
set_option maxRecDepth 100000
theorem s38 : Snd Tryz.prog 38 f38' := snd38 hty hmx hX hJ hn (fun h => h)
theorem s60 : Snd Tryz.prog 60 Ev.f60 := on_snd hty
theorem s70 : Snd Tryz.prog 70 f70' := snd70 hty hmx hX hJ hn (fun h => h) (fun h => h)
noncomputable def tab2 (f : Nat) : Option FD := Bool.rec (Bool.rec (Bool.rec (tab1.get f) (some f70') (Nat.beq f 70)) (some Ev.f60) (Nat.beq f 60)) (some f38') (Nat.beq f 38)
theorem tab2_snd : ∀ f fd, tab2 f = some fd → Snd Tryz.prog f fd := by
  intro f fd h
  unfold tab2 at h
  cases e1 : Nat.beq f 38 with
  | true => rw [e1] at h; cases h; rw [beq_true.1 e1]; exact s38
  | false =>
    rw [e1] at h
    cases e2 : Nat.beq f 60 with
    | true => rw [e2] at h; cases h; rw [beq_true.1 e2]; exact s60
    | false =>
      rw [e2] at h
      cases e3 : Nat.beq f 70 with
      | true => rw [e3] at h; cases h; rw [beq_true.1 e3]; exact s70
      | false => rw [e3] at h; exact tab1_snd f fd h
theorem aw : Knows Tryz.prog 9 [] (.bool true) := known_of hty tab2_snd known_none (fuel := 200) (by kernel_rfl) (by kernel_rfl)
end Go.Proofs.YtinjiaadlkpamaaGreatDoor.Ev.T
