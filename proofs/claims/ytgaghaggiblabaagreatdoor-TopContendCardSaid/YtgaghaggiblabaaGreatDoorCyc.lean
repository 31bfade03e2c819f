/- 'TopContend' returns true, whatever its slice of integers is, which reads afterwards as before; what the three listed tables hold is tied to the program's text. No condition. -/
import Derived.Test.YtgaghaggiblabaaGreatDoorCok
import Derived.Test.YtgaghaggiblabaaGreatDoorHea
import Derived.Test.YtgaghaggiblabaaGreatDoorCards
import Derived.Test.YtgaghaggiblabaaGreatDoorTie
import Derived.WalkKit
import Derived.ProofKit
import Derived.LaidMore
import Derived.OpenShut
import Derived.Stop.Joined
import Derived.SevenTiedAt
import Derived.ChangeSlices
import Derived.Carry
set_option linter.all false
namespace Go.Proofs.YtgaghaggiblabaaGreatDoor
open Go.Proofs.YtgaghaggiblabaaGreatDoor.Ev
open Go.ChangeShapes Go.WideShapes Go.ChangeAt Go.RowKit
theorem own : ownKnob Tryz.prog.godebug = none := by kernel_rfl
set_option maxRecDepth 100000 in
theorem door_met (os : Os) (args : Array Value) : laidMetH Tryz.prog Rows.topContendRow.laid ((World.doorLaid Tryz.prog 400 os).forCall (fun _ _ => 0) ⟨#[], args, []⟩).memory :=
 laidMetH_of_parts3 (fuel := 8) (laidMet_of_run' 8 (by kernel_rfl) (by kernel_rfl)) (by kernel_rfl) (by kernel_rfl)
theorem nonneg_of {n : Int} (h : (Lit.int .u8 n).wf = true) : 0 <= n := by
 simp [Lit.wf, IntKind.min, IntKind.signed] at h
 exact h.1
set_option maxRecDepth 100000 in
theorem open_nums {H : Type} {enc : TypeId × Value -> H} {W : World} {b : Nat} {v : Value} {d : DataW H} {p : List MemPlace} (hval : Value.okWide Tryz.prog W .any b 22 v) (h : DataW.Trod enc Tryz.prog W 0 (fun _ => true) true 22 v d p) : Ev.T.IntsIn W v := by
 obtain ⟨A, n, c, rfl⟩ := okWide_slice Tryz.underlying22 hval
 obtain ⟨fuel, hf⟩ := h
 rcases open_ints Tryz.underlying22 Tryz.underlying3 (by kernel_rfl) hf with ⟨hcs, _⟩ | ⟨x, l, c', zs, hcs, _, hl, hm, hz, _, hcell, hwz⟩
 ·simp [Value.cells] at hcs
  obtain ⟨rfl, rfl, rfl⟩ := hcs
  exact .inl rfl
 ·simp [Value.cells] at hcs
  obtain ⟨rfl, rfl, rfl⟩ := hcs
  have hw : Cell.okWide Tryz.prog W .any b 22 (.slice (some x) n c) := by
   have := hval
   unfold Value.okWide at this
   rw [Tryz.underlying22] at this
   exact this
  have hok : Cell.ok Tryz.prog W .any b 22 (.slice (some x) n c) := by
   unfold Cell.okWide at hw
   rw [Tryz.underlying22] at hw
   exact hw
  unfold Cell.ok at hok
  rw [Tryz.underlying22] at hok
  obtain ⟨_, _, _, hs, row, cells, hsh, _⟩ := hok
  unfold World.shape? at hsh
  split at hsh
  ·rename_i arr e fz he
   refine .inr ⟨x.block, x.off, n, c, zs.take n, arr, e, fz, ?_, he, ?_, hl, ?_⟩
   ·obtain ⟨bk, of, sp⟩ := x
    replace hs : sp = none := hs
    rw [hs]
   ·rw [List.length_take]; simp at hz; omega
   ·intro j hj
    rw [List.length_take] at hj
    have := hcell j (by omega)
    obtain ⟨bk, of, sp⟩ := x
    replace hs : sp = none := hs
    subst hs
    replace he : W.heap[bk]? = some (.cells arr e fz) := he
    have hadd : (⟨bk, of, none⟩ : Addr).add j = ⟨bk, of + j, none⟩ := by
     unfold Addr.add
     split
     ·rename_i h0; rw [h0]; rfl
     ·rfl
    rw [hadd] at this
    unfold World.cell? at this
    simp only [he] at this
    show arr[of + j]? = some (.int .i64 (zs.take n)[j])
    rw [List.getElem_take]
    replace this : arr[of + j]? = some (.int .i64 (zs.getD j 0)) := this
    rw [this, List.getD_eq_getElem?_getD, List.getElem?_eq_getElem (by omega)]
    rfl
  ·cases hsh
theorem laidOut : laidOutB Tryz.prog = true := by kernel_rfl
set_option maxRecDepth 100000 in
theorem topContend_lifted (os : Os) (started : os.Started) (H : Type) (enc : TypeId × Value -> H) :
  ReturnsInHanded {} Tryz.checked os 3 .any (fun w args => (Rows.topContendSpec.pre enc Tryz.prog Tryz.f3 [] false w args /\ laidMetH Tryz.prog Rows.topContendRow.laid w) /\ sizedMet enc Tryz.prog Tryz.f3 (OpenSpec.ofChange Rows.topContendSpec) false w args)
   (Rows.topContendSpec.post enc Tryz.prog Tryz.f3 false true false false) := by
 refine returnsInHanded_of_change_and (C := Tryz.checked) (X := fun w _ => laidMetH Tryz.prog Rows.topContendRow.laid w) (fun _ _ _ hh h => h.of_heap hh) own started (by kernel_rfl) Tryz.func3
  (ChangeSpec.witness_shaped (enc := enc) (C := Tryz.checked) (os := os) (X := fun w _ => laidMetH Tryz.prog Rows.topContendRow.laid w) false (World.doorLaid Tryz.prog 400 os) #[.slice none 0 0] 8 rfl (World.shaped_of_RefB (by kernel_rfl) (by kernel_rfl)) (by kernel_rfl) (by kernel_rfl) (by kernel_rfl) (door_met os _)) ?_
 intro W base args ds gs before hval0 hW _ _ hL _
 have hval : ∀ (j : Nat) t v, Tryz.f3.params[j]? = some t -> args[j]? = some v -> Value.okWide Tryz.prog W .any base t v := hval0
 have hW' := hW
 obtain ⟨p, q, hA0, hV, rfl, hfz, hnd⟩ := hW
 have hA : DataW.TrodAll enc Tryz.prog W 0 (fun _ => true) true Tryz.f3.params.toList args.toList ds p := hA0
 rw [Tryz.params3] at hA hval
 obtain ⟨v0, vs0, d0, ds0, p0, q0, hargs, rfl, rfl, h0, r0⟩ := trodAll_cons hA
 obtain ⟨rfl, rfl, rfl⟩ := trodAll_nil r0
 obtain rfl : args = #[v0] := by cases args; simp_all
 obtain ⟨rfl, rfl⟩ := trodVars_none hV
 have lt0 : ∀ x ∈ p0, x.block < W.heap.size := by obtain ⟨m, hm⟩ := h0; exact DataW.trod_lt m _ _ _ hm
 have hin := open_nums (hval 0 22 v0 rfl rfl) h0
 clear hA0 hval0 hL
 refine (Ev.T.con_walk hin).mono fun e W' ⟨he, bel⟩ => ?_
 subst he
 exact ⟨_, rfl, _, _, _, [], _, [], hW', trodAll_mk1 (shut_bool Tryz.underlying4 _), (trodAll_cons_mk (Below.trod laidOut (by kernel_rfl) (of_decide_eq_true (by kernel_rfl)) h0 bel lt0) trodAll_mk0), rfl, bel.frame _, fun h => by cases h⟩
theorem topContend_holds : Rows.TopContendSaid :=
 OpenClaim.holds_of_wide 3 Tryz.f3 rfl rfl rfl rfl rfl rfl rfl ⟨rfl, rfl, rfl, rfl, rfl⟩ rfl rfl rfl rfl rfl head_name Tryz.func3 head_joined
  (of_decide_eq_true (by kernel_rfl)) (by unfold Func.isWrapper; first | (rw [if_pos (by decide +kernel)]; kernel_rfl) | (rw [if_neg (by decide +kernel)]; exact ⟨rfl, rfl⟩))
  (fun os started H enc _ => topContend_lifted os started H enc)
theorem topContend_card : Rows.TopContendCardSaid :=
 Claim7.holds_tied_plain_at .later [] [.data, .data, .data] true (true, "32b8b3f75cb23092c8143f33a56cb1e8634f8609bbdcdd930cdae14c37cda528") false
  topContend_holds (fun _ h => by cases h) (by kernel_rfl) (fun _ h => by cases h) topContend_row_tie rfl ⟨rfl, rfl⟩ head_main rfl
  (fun f fn hf hfn => by
   obtain rfl : f = 3 := Option.some.inj (head_name.symm.trans hf) |>.symm
   obtain rfl : fn = Tryz.f3 := (Option.some.inj (Tryz.func3.symm.trans hfn)).symm
   exact ⟨head_looks, fun j t ht => by
    rw [Tryz.params3] at ht
    have h5 : t = 22 := by
     rcases j with _ | j
     ·simpa using ht.symm
     ·simp at ht
    subst h5
    exact (show Tryz.prog.wantsStandIn 22 = false by kernel_rfl)⟩)
  head_goesBy
#print axioms topContend_card
end Go.Proofs.YtgaghaggiblabaaGreatDoor
