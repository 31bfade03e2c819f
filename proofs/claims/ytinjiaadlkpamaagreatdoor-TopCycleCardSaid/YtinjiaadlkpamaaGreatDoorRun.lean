/- TopCycle returns true at every pair of bytes, and leaves all memory that was there as it was. No condition. -/
import Derived.Test.YtinjiaadlkpamaaGreatDoorAwk
import Derived.Test.YtinjiaadlkpamaaGreatDoorCyb
import Derived.Test.YtinjiaadlkpamaaGreatDoorFaa
import Derived.Test.YtinjiaadlkpamaaGreatDoorFab
import Derived.Test.YtinjiaadlkpamaaGreatDoorFac
import Derived.Test.YtinjiaadlkpamaaGreatDoorFad
import Derived.Test.YtinjiaadlkpamaaGreatDoorFae
import Derived.Test.YtinjiaadlkpamaaGreatDoorFaf
import Derived.Test.YtinjiaadlkpamaaGreatDoorFag
import Derived.Test.YtinjiaadlkpamaaGreatDoorFah
import Derived.Below
namespace Go.Proofs.YtinjiaadlkpamaaGreatDoor.Ev.T
open Go Go.Proofs Go.Proofs.YtinjiaadlkpamaaGreatDoor Go.Proofs.YtinjiaadlkpamaaGreatDoor.Ev
set_option maxRecDepth 100000
open Go.RowKit
def AllK : List Fact → Prop
  | [] => True
  | q :: l => Knows Tryz.prog q.f q.as q.r ∧ AllK l
theorem AllK.mem : ∀ {l : List Fact}, AllK l → ∀ q, q ∈ l → Knows Tryz.prog q.f q.as q.r
  | [], _, q, h => by cases h
  | p :: l, ⟨h1, h2⟩, q, h => by
    rcases List.mem_cons.1 h with rfl | h
    · exact h1
    · exact AllK.mem h2 q h
noncomputable def facts0 : List Fact := [⟨7, in0_0, re0_0⟩, ⟨7, in0_1, re0_1⟩, ⟨7, in0_2, re0_2⟩, ⟨7, in0_3, re0_3⟩, ⟨7, in0_4, re0_4⟩, ⟨7, in0_5, re0_5⟩, ⟨7, in0_6, re0_6⟩, ⟨7, in0_7, re0_7⟩, ⟨7, in0_8, re0_8⟩, ⟨7, in0_9, re0_9⟩, ⟨7, in0_10, re0_10⟩, ⟨7, in0_11, re0_11⟩, ⟨7, in0_12, re0_12⟩, ⟨7, in0_13, re0_13⟩, ⟨7, in0_14, re0_14⟩, ⟨7, in0_15, re0_15⟩, ⟨7, in0_16, re0_16⟩, ⟨7, in0_17, re0_17⟩, ⟨7, in0_18, re0_18⟩, ⟨9, [], .bool true⟩]
theorem facts0_ok : AllK facts0 := ⟨fa0_0, fa0_1, fa0_2, fa0_3, fa0_4, fa0_5, fa0_6, fa0_7, fa0_8, fa0_9, fa0_10, fa0_11, fa0_12, fa0_13, fa0_14, fa0_15, fa0_16, fa0_17, fa0_18, aw, trivial⟩
noncomputable def facts1 : List Fact := [⟨7, in1_0, re1_0⟩, ⟨7, in1_1, re1_1⟩, ⟨7, in1_2, re1_2⟩, ⟨7, in1_3, re1_3⟩, ⟨7, in1_4, re1_4⟩, ⟨7, in1_5, re1_5⟩, ⟨7, in1_6, re1_6⟩, ⟨7, in1_7, re1_7⟩, ⟨7, in1_8, re1_8⟩, ⟨7, in1_9, re1_9⟩, ⟨7, in1_10, re1_10⟩, ⟨7, in1_11, re1_11⟩, ⟨7, in1_12, re1_12⟩, ⟨7, in1_13, re1_13⟩, ⟨7, in1_14, re1_14⟩, ⟨7, in1_15, re1_15⟩, ⟨7, in1_16, re1_16⟩, ⟨7, in1_17, re1_17⟩, ⟨7, in1_18, re1_18⟩, ⟨7, in1_19, re1_19⟩, ⟨7, in1_20, re1_20⟩, ⟨7, in1_21, re1_21⟩, ⟨7, in1_22, re1_22⟩, ⟨7, in1_23, re1_23⟩, ⟨7, in1_24, re1_24⟩, ⟨9, [], .bool true⟩]
theorem facts1_ok : AllK facts1 := ⟨fa1_0, fa1_1, fa1_2, fa1_3, fa1_4, fa1_5, fa1_6, fa1_7, fa1_8, fa1_9, fa1_10, fa1_11, fa1_12, fa1_13, fa1_14, fa1_15, fa1_16, fa1_17, fa1_18, fa1_19, fa1_20, fa1_21, fa1_22, fa1_23, fa1_24, aw, trivial⟩
noncomputable def facts2 : List Fact := [⟨7, in2_0, re2_0⟩, ⟨7, in2_1, re2_1⟩, ⟨7, in2_2, re2_2⟩, ⟨7, in2_3, re2_3⟩, ⟨7, in2_4, re2_4⟩, ⟨7, in2_5, re2_5⟩, ⟨7, in2_6, re2_6⟩, ⟨7, in2_7, re2_7⟩, ⟨7, in2_8, re2_8⟩, ⟨7, in2_9, re2_9⟩, ⟨7, in2_10, re2_10⟩, ⟨7, in2_11, re2_11⟩, ⟨7, in2_12, re2_12⟩, ⟨7, in2_13, re2_13⟩, ⟨7, in2_14, re2_14⟩, ⟨7, in2_15, re2_15⟩, ⟨7, in2_16, re2_16⟩, ⟨7, in2_17, re2_17⟩, ⟨7, in2_18, re2_18⟩, ⟨7, in2_19, re2_19⟩, ⟨7, in2_20, re2_20⟩, ⟨7, in2_21, re2_21⟩, ⟨7, in2_22, re2_22⟩, ⟨7, in2_23, re2_23⟩, ⟨7, in2_24, re2_24⟩, ⟨7, in2_25, re2_25⟩, ⟨7, in2_26, re2_26⟩, ⟨7, in2_27, re2_27⟩, ⟨7, in2_28, re2_28⟩, ⟨7, in2_29, re2_29⟩, ⟨7, in2_30, re2_30⟩, ⟨9, [], .bool true⟩]
theorem facts2_ok : AllK facts2 := ⟨fa2_0, fa2_1, fa2_2, fa2_3, fa2_4, fa2_5, fa2_6, fa2_7, fa2_8, fa2_9, fa2_10, fa2_11, fa2_12, fa2_13, fa2_14, fa2_15, fa2_16, fa2_17, fa2_18, fa2_19, fa2_20, fa2_21, fa2_22, fa2_23, fa2_24, fa2_25, fa2_26, fa2_27, fa2_28, fa2_29, fa2_30, aw, trivial⟩
theorem r00 (L R : Int) : body (run tab2 (memOf facts0) 200) (f3' 0 0) [.int .u8 L, .int .u8 R] 0 0 [] = some (.bool true, 0, []) := by kernel_rfl
theorem r01 (L R : Int) : body (run tab2 (memOf facts0) 200) (f3' 0 1) [.int .u8 L, .int .u8 R] 0 0 [] = some (.bool true, 0, []) := by kernel_rfl
theorem r02 (L R : Int) : body (run tab2 (memOf facts0) 200) (f3' 0 2) [.int .u8 L, .int .u8 R] 0 0 [] = some (.bool true, 0, []) := by kernel_rfl
theorem r10 (L R : Int) : body (run tab2 (memOf facts1) 200) (f3' 1 0) [.int .u8 L, .int .u8 R] 0 0 [] = some (.bool true, 0, []) := by kernel_rfl
theorem r11 (L R : Int) : body (run tab2 (memOf facts1) 200) (f3' 1 1) [.int .u8 L, .int .u8 R] 0 0 [] = some (.bool true, 0, []) := by kernel_rfl
theorem r12 (L R : Int) : body (run tab2 (memOf facts1) 200) (f3' 1 2) [.int .u8 L, .int .u8 R] 0 0 [] = some (.bool true, 0, []) := by kernel_rfl
theorem r20 (L R : Int) : body (run tab2 (memOf facts2) 200) (f3' 2 0) [.int .u8 L, .int .u8 R] 0 0 [] = some (.bool true, 0, []) := by kernel_rfl
theorem r21 (L R : Int) : body (run tab2 (memOf facts2) 200) (f3' 2 1) [.int .u8 L, .int .u8 R] 0 0 [] = some (.bool true, 0, []) := by kernel_rfl
theorem r22 (L R : Int) : body (run tab2 (memOf facts2) 200) (f3' 2 2) [.int .u8 L, .int .u8 R] 0 0 [] = some (.bool true, 0, []) := by kernel_rfl
/-- The call, where the two remainders are known. -/
theorem cyc_at {l : List Fact} (hl : AllK l) {L R p q : Int} (hp : Int.tmod L 3 = p) (hq : Int.tmod R 3 = q) (h : body (run tab2 (memOf l) 200) (f3' p q) [.int .u8 L, .int .u8 R] 0 0 [] = some (.bool true, 0, [])) (w : World) :
    Calls Tryz.prog 3 #[.int .u8 L, .int .u8 R] w fun e w' => e = .returned (.bool true) ∧ Below w.heap.size w w' := by
  have hk : Known Tryz.prog (memOf l) := known_list (fun q hq => hl.mem q hq)
  have hi : Inv Tryz.prog ⟨fun _ => none, fun _ => none, 0, [], w⟩ := ⟨fun c a e => (by cases e), ⟨fun b ab e => (by cases e), fun b b' x y c k k' e => (by cases e)⟩, fun b x e => (by cases e)⟩
  rw [← body3 hp hq] at h
  have hc := s3.2 (run tab2 (memOf l) 200) (run_ok2 tab2_snd hk 200) (run_fn tab2_snd hk 200) [.int .u8 L, .int .u8 R] 0 ⟨fun _ => none, fun _ => none, 0, [], w⟩ (.bool true, 0, []) [.int .u8 L, .int .u8 R] h hi (Nat.le_refl _) (.cons (VR.mkInt .u8 L) (.cons (VR.mkInt .u8 R) .nil))
  refine hc.mono ?_
  rintro e w' ⟨v, t, rfl, rfl, hv, hE, _, _⟩
  have hv' : v = .bool true := hv.bool
  subst hv'
  refine ⟨rfl, hE.os, hE.tape, hE.out, hE.size, ?_⟩
  intro k hlt
  exact hE.frame k hlt (fun hx => by obtain ⟨b, ab, _, e, _⟩ := hx; cases e)
theorem tmod3 {L : Int} (h : 0 ≤ L) : Int.tmod L 3 = 0 ∨ Int.tmod L 3 = 1 ∨ Int.tmod L 3 = 2 := by
  rw [Int.tmod_eq_emod_of_nonneg h]
  omega
/-- The call at any two bytes. -/
theorem cyc_walk {L R : Int} (hL : 0 ≤ L) (hR : 0 ≤ R) (w : World) :
    Calls Tryz.prog 3 #[.int .u8 L, .int .u8 R] w fun e w' => e = .returned (.bool true) ∧ Below w.heap.size w w' := by
  rcases tmod3 hL with h | h | h <;> rcases tmod3 hR with k | k | k
  · exact cyc_at facts0_ok h k (r00 L R) w
  · exact cyc_at facts0_ok h k (r01 L R) w
  · exact cyc_at facts0_ok h k (r02 L R) w
  · exact cyc_at facts1_ok h k (r10 L R) w
  · exact cyc_at facts1_ok h k (r11 L R) w
  · exact cyc_at facts1_ok h k (r12 L R) w
  · exact cyc_at facts2_ok h k (r20 L R) w
  · exact cyc_at facts2_ok h k (r21 L R) w
  · exact cyc_at facts2_ok h k (r22 L R) w
end Go.Proofs.YtinjiaadlkpamaaGreatDoor.Ev.T
