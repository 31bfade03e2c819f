/- The checks of TopContend and of the reader. No condition. -/
import Derived.Test.YtgaghaggiblabaaGreatDoorRdr
import Derived.Test.YtgaghaggiblabaaGreatDoorAwk
set_option linter.all false
namespace Go.Proofs.YtgaghaggiblabaaGreatDoor.Ev.T
open Go Go.Proofs Go.Proofs.YtgaghaggiblabaaGreatDoor Go.Proofs.YtgaghaggiblabaaGreatDoor.Ev
set_option maxRecDepth 100000
variable {X : Nat -> AV} {NN : Nat -> Int} {hC : HC NN}
theorem k3 : fok (M (QX X NN hC)) 200867255579507212965343244784112911345118939560682197614589 (oneTJ (J (QX X NN hC)) 568) Tryz.f3 f3 = true := by kernel_rfl
theorem k4 : fok (M (QX X NN hC)) 37 (oneTJ (J (QX X NN hC)) 568) Tryz.f4 f4 = true := by kernel_rfl
theorem k5 : fok (M (QX X NN hC)) 71 (oneTJ (J (QX X NN hC)) 568) Tryz.f5 f5 = true := by kernel_rfl
theorem k10 : fok (M (QX X NN hC)) 8371 (oneTJ (J (QX X NN hC)) 568) Tryz.f10 f10 = true := by kernel_rfl
theorem k11 : fok (M (QX X NN hC)) 5 (oneTJ (J (QX X NN hC)) 568) Tryz.f11 f11 = true := by kernel_rfl
theorem k21 : fok (M (QX X NN hC)) 4101 (oneTJ (J (QX X NN hC)) 568) Tryz.f21 f21 = true := by kernel_rfl
theorem s3 : Snd (QX X NN hC) 3 f3 := snd_of hty hmx hX hJ hn Tryz.func3 (by kernel_rfl) k3
theorem s4 : Snd (QX X NN hC) 4 f4 := snd_of hty hmx hX hJ hn Tryz.func4 (by kernel_rfl) k4
theorem s5 : Snd (QX X NN hC) 5 f5 := snd_of hty hmx hX hJ hn Tryz.func5 (by kernel_rfl) k5
theorem s10 : Snd (QX X NN hC) 10 f10 := snd_of hty hmx hX hJ hn Tryz.func10 (by kernel_rfl) k10
theorem s11 : Snd (QX X NN hC) 11 f11 := snd_of hty hmx hX hJ hn Tryz.func11 (by kernel_rfl) k11
theorem s21 : Snd (QX X NN hC) 21 f21 := snd_of hty hmx hX hJ hn Tryz.func21 (by kernel_rfl) k21
noncomputable def tab3 (f : Nat) : Option FD := Bool.rec (Bool.rec (Bool.rec (Bool.rec (Bool.rec (Bool.rec (tab2 f) (some f3) (Nat.beq f 3)) (some f4) (Nat.beq f 4)) (some f5) (Nat.beq f 5)) (some f10) (Nat.beq f 10)) (some f11) (Nat.beq f 11)) (some f21) (Nat.beq f 21)
theorem tab3_snd : ∀ f fd, tab3 f = some fd -> Snd (QX X NN hC) f fd := by
 intro f fd h
 unfold tab3 at h
 cases e21 : Nat.beq f 21 with
 | true => rw [e21] at h; cases h; rw [beq_true.1 e21]; exact s21
 | false =>
 rw [e21] at h
 cases e11 : Nat.beq f 11 with
 | true => rw [e11] at h; cases h; rw [beq_true.1 e11]; exact s11
 | false =>
 rw [e11] at h
 cases e10 : Nat.beq f 10 with
 | true => rw [e10] at h; cases h; rw [beq_true.1 e10]; exact s10
 | false =>
 rw [e10] at h
 cases e5 : Nat.beq f 5 with
 | true => rw [e5] at h; cases h; rw [beq_true.1 e5]; exact s5
 | false =>
 rw [e5] at h
 cases e4 : Nat.beq f 4 with
 | true => rw [e4] at h; cases h; rw [beq_true.1 e4]; exact s4
 | false =>
 rw [e4] at h
 cases e3 : Nat.beq f 3 with
 | true => rw [e3] at h; cases h; rw [beq_true.1 e3]; exact s3
 | false =>
 rw [e3] at h
 exact tab2_snd f fd h
end Go.Proofs.YtgaghaggiblabaaGreatDoor.Ev.T
