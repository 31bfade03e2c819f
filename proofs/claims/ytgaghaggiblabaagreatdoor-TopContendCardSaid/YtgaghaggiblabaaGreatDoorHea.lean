/- The closed facts of the row, each by itself: one theorem with all of them falls at the memory limit. No condition. -/
import Derived.Test.YtgaghaggiblabaaGreatDoorRows
import Derived.Test.YtgaghaggiblabaaGreatDoorCards
import Derived.Stop.Joined
import Derived.SevenTiedAt
import Derived.ProofKit
set_option linter.all false
namespace Go.Proofs.YtgaghaggiblabaaGreatDoor
open Go.ChangeShapes Go.WideShapes Go.ChangeAt Go.RowKit
set_option maxRecDepth 100000
theorem head_make : (Tryz.prog.make == some Rows.topContendRow.make) = true := by kernel_rfl
theorem head_may : Tryz.prog.mayEnter = true := by kernel_rfl
theorem head_lifts : (Rows.topContendRow.lifted == Tryz.prog.liftsFinal) = true := by kernel_rfl
theorem head_in : (Rows.topContendRow.inPlace == Tryz.prog.inPlace 3) = true := by kernel_rfl
theorem head_un : (Rows.topContendRow.unfollowed == Tryz.prog.unfollowed 3) = true := by kernel_rfl
theorem head_rec : (Rows.topContendRow.recurses == Tryz.prog.recurses 3) = true := by kernel_rfl
theorem head_vars : (Rows.topContendRow.named == Tryz.prog.varsNamed 3) = true := by kernel_rfl
theorem head_goes : Tryz.prog.funcs.any Func.goes = false := by kernel_rfl
theorem head_name : Tryz.prog.funcNamed "shardqueue/shardqueuetop.TopContend" = some 3 := by kernel_rfl
theorem head_looks : false = Tryz.prog.looks [] := by kernel_rfl
theorem head_main : Tryz.prog.mainIs = some (true, "32b8b3f75cb23092c8143f33a56cb1e8634f8609bbdcdd930cdae14c37cda528".toList) := by kernel_rfl
theorem goes_of {P : Program} (h : P.funcs.any Func.goes = false) (f : FuncId) : P.goes f = false := by
  have hf : ∀ g : Nat, (P.funcs[g]?).any Func.goes = false := by
    intro g
    cases e : P.funcs[g]? with
    | none => rfl
    | some fn =>
      have hm := Array.mem_of_getElem? e
      rw [Array.any_eq_false'] at h
      simpa using h fn hm
  unfold Program.goes
  rw [h, Bool.and_false, Bool.or_false]
  exact List.any_eq_false.2 (fun g _ => by rw [hf g]; simp)
theorem goesAt_of {P : Program} (h : P.funcs.any Func.goes = false) (func : String) : P.goesAt .entering func = false := by
  unfold Program.goesAt Program.goesFrom
  cases P.funcNamed func with
  | none => rfl
  | some f => simp [goes_of h f]
theorem head_goesBy : false = Rows.topContendRow.goesBy Tryz.pinned.checked.prog := by
  have e : Rows.topContendRow.goesBy Tryz.pinned.checked.prog = Tryz.prog.goesAt .entering Rows.topContendRow.func := rfl
  rw [e, goesAt_of head_goes]
def joinedRest (P : Program) (fn : Func) (s : ChangeSpec) (c : OpenClaim) : Bool :=
  c.wf (OpenSpec.ofChange s) && laidOutB P && mapsRowed P &&
  fn.params.all (P.readableRec ·) && namedTie P c.named s.vars &&
  (c.stops == []) && (P.stops == []) && (c.knobs == []) && (P.stopKnobs == []) &&
  (c.maps == (fn.params.toList ++ s.plain.varTypes P).any (P.mapsRec ·)) && (c.ifaces == (fn.params.toList ++ s.plain.varTypes P).any (P.ifacesRec ·)) && (c.mapsOut == P.mapsAmong fn.resultTypes.toList) &&
  (c.loops == (fn.params.toList ++ s.plain.varTypes P).any (P.loopsFrom ·)) && (c.wideKeys == (fn.params.toList ++ s.plain.varTypes P ++ fn.resultTypes.toList).any (P.wideKeysFrom ·)) &&
  s.vars.all (P.varReadable ·) && fn.resultTypes.all (fun t => P.readableRec t && decide (t < P.types.size)) && (c.ifacesOut == fn.resultTypes.toList.any (P.ifacesRec ·)) && (c.loopsOut == fn.resultTypes.toList.any (P.loopsFrom ·)) && (c.plainKeys == P.plainKeys) && c.shortTexts.isNone && P.stopsHeard && (c.kinds == (if c.domain.isEmpty then [] else fn.params.toList.map fun t => match P.underlying t with | some (.int k) => some k | _ => none)) && (c.pinned == c.pinnedBy) &&
  (c.veiled == (fn.params.toList ++ s.plain.varTypes P ++ fn.resultTypes.toList).any (P.veiledRec ·)) && c.veiledFits P fn.params.toList (fn.params.toList ++ s.plain.varTypes P ++ fn.resultTypes.toList)
theorem joined_of {P : Program} {f : FuncId} {fn : Func} {s : ChangeSpec} {c : OpenClaim} (h1 : (P.make == some c.make) = true) (h2 : P.mayEnter = true) (h3 : (c.lifted == P.liftsFinal) = true) (h4 : (c.inPlace == P.inPlace f) = true)
    (h5 : (c.unfollowed == P.unfollowed f) = true) (h6 : (c.recurses == P.recurses f) = true) (h7 : (c.named == P.varsNamed f) = true) (h : joinedRest P fn s c = true) : joinedFacts P f fn s c = true := by
  unfold joinedRest at h
  unfold joinedFacts
  simp only [Bool.and_eq_true] at h ⊢
  simp only [h1, h2, h3, h4, h5, h6, h7, and_true]
  exact h
theorem head_rest : joinedRest Tryz.prog Tryz.f3 Rows.topContendSpec Rows.topContendRow = true := by kernel_rfl
theorem head_joined : joinedFacts Tryz.prog 3 Tryz.f3 Rows.topContendSpec Rows.topContendRow = true :=
  joined_of head_make head_may head_lifts head_in head_un head_rec head_vars head_rest
end Go.Proofs.YtgaghaggiblabaaGreatDoor
