/- 'MessageCodes' returns true, whatever the arguments are, and each argument reads afterwards as before. No condition. -/
import Derived.Test.YtaoiekcoiooghaaHed
import Derived.Test.YtaoiekcoiooghaaMessageCodesW
namespace Go.Proofs.Ytaoiekcoiooghaa
open Go.ChangeShapes Go.WideShapes Go.ChangeAt Go.RowKit
open Go.ChangeMaps (open_string shut_string)
set_option maxRecDepth 100000 in
theorem messageCodes_lifted (os : Os) (started : os.Started) (H : Type) (enc : TypeId × Value → H) :
    ReturnsInHanded {} Try.checked os 25 .any (Rows.messageCodesSpec.pre6 enc Try.prog Try.f25 Rows.messageCodesRow.domain false) (Rows.messageCodesSpec.post enc Try.prog Try.f25 false true false false) := by
  refine returnsInHanded_of_change (C := Try.checked) own started (by kernel_rfl) Try.func25
    (ChangeSpec.witness6 (enc := enc) (C := Try.checked) false ⟨#[], #[.agg #[.int .i64 0, .int .i64 0, .int .i64 0, .int .i64 0, .int .i64 0, .int .i64 0, .string ByteArray.empty], .slice none 0 0, .slice none 0 0], []⟩ 8 (by kernel_rfl) (by kernel_rfl) (by kernel_rfl) (by kernel_rfl)) ?_
  intro W base args ds gs before hval0 hW hcnd _
  have hval : ∀ (j : Nat) t v, Try.f25.params[j]? = some t → args[j]? = some v → Value.okWide Try.prog W .any base t v := hval0
  have hW' := hW
  obtain ⟨p, q, hA0, hV, rfl, hfz, hnd⟩ := hW
  have hA : DataW.TrodAll enc Try.prog W 0 (fun _ => true) true Try.f25.params.toList args.toList ds p := hA0
  rw [Try.params25] at hA hval
  obtain ⟨v0, vs0, d0, ds0, p0, q0, hargs, rfl, rfl, h0, r0⟩ := trodAll_cons hA
  obtain ⟨v1, vs1, d1, ds1, p1, q1, rfl, rfl, rfl, h1, r1⟩ := trodAll_cons r0
  obtain ⟨v2, vs2, d2, ds2, p2, q2, rfl, rfl, rfl, h2, r2⟩ := trodAll_cons r1
  obtain ⟨rfl, rfl, rfl⟩ := trodAll_nil r2
  obtain rfl : args = #[v0, v1, v2] := by cases args; simp_all
  obtain ⟨rfl, rfl⟩ := trodVars_none hV
  have lt0 : ∀ x ∈ p0, x.block < W.heap.size := by obtain ⟨m, hm⟩ := h0; exact DataW.trod_lt m _ _ _ hm
  obtain ⟨x00, x01, x02, x03, x04, x05, s0, hv0, w00, w01, w02, w03, w04, w05⟩ := open_message (hval 0 75 v0 rfl rfl) h0
  subst hv0
  have lt1 : ∀ x ∈ p1, x.block < W.heap.size := by obtain ⟨m, hm⟩ := h1; exact DataW.trod_lt m _ _ _ hm
  obtain ⟨A1, n1, c1, l1, hv1, w1, k1, m1⟩ := open_bytes (hval 1 47 v1 rfl rfl) h1
  subst hv1
  have lt2 : ∀ x ∈ p2, x.block < W.heap.size := by obtain ⟨m, hm⟩ := h2; exact DataW.trod_lt m _ _ _ hm
  obtain ⟨A2, n2, c2, l2, hv2, w2, k2, m2, b2⟩ := open_nums (hval 2 24 v2 rfl rfl) h2
  subst hv2
  clear hA0 hval0
  refine (messageCodes_walk x00 x01 x02 x03 x04 x05 s0 A1 n1 c1 l1 A2 n2 c2 l2 W w00 w01 w02 w03 w04 w05 w1 k1 m1 w2 k2 m2 b2).mono fun e W' ⟨he, bel⟩ => ?_
  subst he
  exact ⟨_, rfl, _, _, _, [], _, [], hW', trodAll_mk1 (shut_bool Try.underlying4 _), (trodAll_cons_mk (Below.trod laidOut (by kernel_rfl) (of_decide_eq_true (by kernel_rfl)) h0 bel lt0) (trodAll_cons_mk (Below.trod laidOut (by kernel_rfl) (of_decide_eq_true (by kernel_rfl)) h1 bel lt1) (trodAll_cons_mk (Below.trod laidOut (by kernel_rfl) (of_decide_eq_true (by kernel_rfl)) h2 bel lt2) trodAll_mk0))), rfl, bel.frame _, fun h => by cases h⟩

theorem messageCodes_holds : Rows.MessageCodesSaid :=
  OpenClaim.holds_of_wide (p := Try.pinned) (s := Rows.messageCodesSpec) (c := Rows.messageCodesRow) 25 Try.f25 rfl rfl rfl rfl rfl rfl rfl ⟨rfl, rfl, rfl, rfl, rfl⟩ rfl rfl rfl rfl rfl (by kernel_rfl) Try.func25 (joined_of rfl rfl (by kernel_rfl))
    (of_decide_eq_true (by kernel_rfl)) (by unfold Func.isWrapper; first | (rw [if_pos (by decide +kernel)]; kernel_rfl) | (rw [if_neg (by decide +kernel)]; exact ⟨rfl, rfl⟩))
    (fun os started H enc _ => messageCodes_lifted os started H enc)
#print axioms messageCodes_holds
end Go.Proofs.Ytaoiekcoiooghaa
