/-
  No cell of these rows narrows 'for every input' (looked for: loops, veiled, ifaces, maps, wideKeys, modest, calm, conditions, laid).
  DERIVED. THE GIVEN ROWS OF THIS SEAT. 24 by the template 'for every input the law returns true; each argument reads behind the call as it read before'; 0 by the template 'total and deterministic' (their statements: YtaoiekcoiooghaaTotals.lean).
  GIVEN WITH THE SEED: the statements are not yours to turn. If you find one false, say at which input.
  Laid BY PROGRAM, IN A SANDBOX (cutbox-rows.mjs): the forced cells as the released guide's own fill.sh prints them over the translation 6b83e9ad24720456… (all of the seat's roots in one cut). By AI agents, Wed Nov 11 2026. No macro, syntax, notation, axiom, sorry.
-/
import Derived.Test.YtaoiekcoiooghaaChecked
import GoSem.Claim
import GoSem.ClaimJoined
import GoSem.ClaimMapViews
import Derived.JoinedTies
import Derived.KernelRfl
namespace Go.Proofs.Ytaoiekcoiooghaa
/- THE CELL 'sum', in the pinned program and in every row, IS THE sha256 OF THE DUMP (.gsa) THAT YtaoiekcoiooghaaProg.lean LOADS. Nothing in Lean hashes anything: it is a label: what it is worth is what the hold of that sum in a sandbox is worth. -/
noncomputable def Try.pinned : Pinned := { name := "ytaoiekcoiooghaa", sum := "6b83e9ad24720456f7c16b80e8083051426bd33d3755e8fc0e70c10682b82419", checked := Try.checked }
namespace Rows
def none {H : Type} : Left H := { results := [], args := [] }

/-- 'shardqueuelaw16.WalkRaw': WHATEVER THE INPUT: true; the input reads as it did. -/
def walkRawSpec : ChangeSpec := { name := "walkRaw", fn := fun _ => fun
  | [d1, d2, d3, d4, d5] => { results := [.lit (.bool true)], args := [d1, d2, d3, d4, d5] }
  | _ => none }
def walkRawRow : OpenClaim := { program := "ytaoiekcoiooghaa", sum := "6b83e9ad24720456f7c16b80e8083051426bd33d3755e8fc0e70c10682b82419", func := "shardqueue/shardqueuelaw16.WalkRaw", spec := "walkRaw", apart := false }
def WalkRawSaid : Prop := walkRawRow.holds Try.pinned (OpenSpec.ofChange walkRawSpec)

/-- ITS FALSE NEIGHBOUR: 'it returns false'. Refute it at one input. -/
def walkRawWrong : ChangeSpec := { name := "walkRaw", fn := fun _ => fun
  | [d1, d2, d3, d4, d5] => { results := [.lit (.bool false)], args := [d1, d2, d3, d4, d5] }
  | _ => none }
def WalkRawWrongFalsely : Prop := walkRawRow.holds Try.pinned (OpenSpec.ofChange walkRawWrong)

/-- 'shardqueuelaw16.WalkVisits': WHATEVER THE INPUT: true; the input reads as it did. -/
def walkVisitsSpec : ChangeSpec := { name := "walkVisits", fn := fun _ => fun
  | [d1, d2] => { results := [.lit (.bool true)], args := [d1, d2] }
  | _ => none }
def walkVisitsRow : OpenClaim := { program := "ytaoiekcoiooghaa", sum := "6b83e9ad24720456f7c16b80e8083051426bd33d3755e8fc0e70c10682b82419", func := "shardqueue/shardqueuelaw16.WalkVisits", spec := "walkVisits", apart := false }
def WalkVisitsSaid : Prop := walkVisitsRow.holds Try.pinned (OpenSpec.ofChange walkVisitsSpec)

/-- ITS FALSE NEIGHBOUR: 'it returns false'. Refute it at one input. -/
def walkVisitsWrong : ChangeSpec := { name := "walkVisits", fn := fun _ => fun
  | [d1, d2] => { results := [.lit (.bool false)], args := [d1, d2] }
  | _ => none }
def WalkVisitsWrongFalsely : Prop := walkVisitsRow.holds Try.pinned (OpenSpec.ofChange walkVisitsWrong)

/-- 'shardqueuelaw16.WalkCovers': WHATEVER THE INPUT: true; the input reads as it did. -/
def walkCoversSpec : ChangeSpec := { name := "walkCovers", fn := fun _ => fun
  | [d1, d2] => { results := [.lit (.bool true)], args := [d1, d2] }
  | _ => none }
def walkCoversRow : OpenClaim := { program := "ytaoiekcoiooghaa", sum := "6b83e9ad24720456f7c16b80e8083051426bd33d3755e8fc0e70c10682b82419", func := "shardqueue/shardqueuelaw16.WalkCovers", spec := "walkCovers", apart := false }
def WalkCoversSaid : Prop := walkCoversRow.holds Try.pinned (OpenSpec.ofChange walkCoversSpec)

/-- ITS FALSE NEIGHBOUR: 'it returns false'. Refute it at one input. -/
def walkCoversWrong : ChangeSpec := { name := "walkCovers", fn := fun _ => fun
  | [d1, d2] => { results := [.lit (.bool false)], args := [d1, d2] }
  | _ => none }
def WalkCoversWrongFalsely : Prop := walkCoversRow.holds Try.pinned (OpenSpec.ofChange walkCoversWrong)

/-- 'shardqueuelaw01.OctetsSizes': WHATEVER THE INPUT: true; the input reads as it did. -/
def octetsSizesSpec : ChangeSpec := { name := "octetsSizes", fn := fun _ => fun
  | [d] => { results := [.lit (.bool true)], args := [d] }
  | _ => none }
def octetsSizesRow : OpenClaim := { program := "ytaoiekcoiooghaa", sum := "6b83e9ad24720456f7c16b80e8083051426bd33d3755e8fc0e70c10682b82419", func := "shardqueue/shardqueuelaw01.OctetsSizes", spec := "octetsSizes", apart := false }
def OctetsSizesSaid : Prop := octetsSizesRow.holds Try.pinned (OpenSpec.ofChange octetsSizesSpec)

/-- ITS FALSE NEIGHBOUR: 'it returns false'. Refute it at one input. -/
def octetsSizesWrong : ChangeSpec := { name := "octetsSizes", fn := fun _ => fun
  | [d] => { results := [.lit (.bool false)], args := [d] }
  | _ => none }
def OctetsSizesWrongFalsely : Prop := octetsSizesRow.holds Try.pinned (OpenSpec.ofChange octetsSizesWrong)

/-- 'shardqueuelaw02.DigestInto': WHATEVER THE INPUT: true; the input reads as it did. -/
def digestIntoSpec : ChangeSpec := { name := "digestInto", fn := fun _ => fun
  | [d1, d2, d3] => { results := [.lit (.bool true)], args := [d1, d2, d3] }
  | _ => none }
def digestIntoRow : OpenClaim := { program := "ytaoiekcoiooghaa", sum := "6b83e9ad24720456f7c16b80e8083051426bd33d3755e8fc0e70c10682b82419", func := "shardqueue/shardqueuelaw02.DigestInto", spec := "digestInto", apart := false }
def DigestIntoSaid : Prop := digestIntoRow.holds Try.pinned (OpenSpec.ofChange digestIntoSpec)

/-- ITS FALSE NEIGHBOUR: 'it returns false'. Refute it at one input. -/
def digestIntoWrong : ChangeSpec := { name := "digestInto", fn := fun _ => fun
  | [d1, d2, d3] => { results := [.lit (.bool false)], args := [d1, d2, d3] }
  | _ => none }
def DigestIntoWrongFalsely : Prop := digestIntoRow.holds Try.pinned (OpenSpec.ofChange digestIntoWrong)

/-- 'shardqueuelaw02.DigestSums': WHATEVER THE INPUT: true; the input reads as it did. -/
def digestSumsSpec : ChangeSpec := { name := "digestSums", fn := fun _ => fun
  | [d] => { results := [.lit (.bool true)], args := [d] }
  | _ => none }
def digestSumsRow : OpenClaim := { program := "ytaoiekcoiooghaa", sum := "6b83e9ad24720456f7c16b80e8083051426bd33d3755e8fc0e70c10682b82419", func := "shardqueue/shardqueuelaw02.DigestSums", spec := "digestSums", apart := false }
def DigestSumsSaid : Prop := digestSumsRow.holds Try.pinned (OpenSpec.ofChange digestSumsSpec)

/-- ITS FALSE NEIGHBOUR: 'it returns false'. Refute it at one input. -/
def digestSumsWrong : ChangeSpec := { name := "digestSums", fn := fun _ => fun
  | [d] => { results := [.lit (.bool false)], args := [d] }
  | _ => none }
def DigestSumsWrongFalsely : Prop := digestSumsRow.holds Try.pinned (OpenSpec.ofChange digestSumsWrong)

/-- 'shardqueuelaw02.DigestChange': WHATEVER THE INPUT: true; the input reads as it did. -/
def digestChangeSpec : ChangeSpec := { name := "digestChange", fn := fun _ => fun
  | [d1, d2, d3] => { results := [.lit (.bool true)], args := [d1, d2, d3] }
  | _ => none }
def digestChangeRow : OpenClaim := { program := "ytaoiekcoiooghaa", sum := "6b83e9ad24720456f7c16b80e8083051426bd33d3755e8fc0e70c10682b82419", func := "shardqueue/shardqueuelaw02.DigestChange", spec := "digestChange", apart := false }
def DigestChangeSaid : Prop := digestChangeRow.holds Try.pinned (OpenSpec.ofChange digestChangeSpec)

/-- ITS FALSE NEIGHBOUR: 'it returns false'. Refute it at one input. -/
def digestChangeWrong : ChangeSpec := { name := "digestChange", fn := fun _ => fun
  | [d1, d2, d3] => { results := [.lit (.bool false)], args := [d1, d2, d3] }
  | _ => none }
def DigestChangeWrongFalsely : Prop := digestChangeRow.holds Try.pinned (OpenSpec.ofChange digestChangeWrong)

/-- 'shardqueuelaw09.HandleUnique': WHATEVER THE INPUT: true; the input reads as it did. -/
def handleUniqueSpec : ChangeSpec := { name := "handleUnique", fn := fun _ => fun
  | [d1, d2] => { results := [.lit (.bool true)], args := [d1, d2] }
  | _ => none }
def handleUniqueRow : OpenClaim := { program := "ytaoiekcoiooghaa", sum := "6b83e9ad24720456f7c16b80e8083051426bd33d3755e8fc0e70c10682b82419", func := "shardqueue/shardqueuelaw09.HandleUnique", spec := "handleUnique", apart := false }
def HandleUniqueSaid : Prop := handleUniqueRow.holds Try.pinned (OpenSpec.ofChange handleUniqueSpec)

/-- ITS FALSE NEIGHBOUR: 'it returns false'. Refute it at one input. -/
def handleUniqueWrong : ChangeSpec := { name := "handleUnique", fn := fun _ => fun
  | [d1, d2] => { results := [.lit (.bool false)], args := [d1, d2] }
  | _ => none }
def HandleUniqueWrongFalsely : Prop := handleUniqueRow.holds Try.pinned (OpenSpec.ofChange handleUniqueWrong)

/-- 'shardqueuelaw01.OctetsGroups': WHATEVER THE INPUT: true; the input reads as it did. -/
def octetsGroupsSpec : ChangeSpec := { name := "octetsGroups", fn := fun _ => fun
  | [d1, d2, d3] => { results := [.lit (.bool true)], args := [d1, d2, d3] }
  | _ => none }
def octetsGroupsRow : OpenClaim := { program := "ytaoiekcoiooghaa", sum := "6b83e9ad24720456f7c16b80e8083051426bd33d3755e8fc0e70c10682b82419", func := "shardqueue/shardqueuelaw01.OctetsGroups", spec := "octetsGroups", apart := false }
def OctetsGroupsSaid : Prop := octetsGroupsRow.holds Try.pinned (OpenSpec.ofChange octetsGroupsSpec)

/-- ITS FALSE NEIGHBOUR: 'it returns false'. Refute it at one input. -/
def octetsGroupsWrong : ChangeSpec := { name := "octetsGroups", fn := fun _ => fun
  | [d1, d2, d3] => { results := [.lit (.bool false)], args := [d1, d2, d3] }
  | _ => none }
def OctetsGroupsWrongFalsely : Prop := octetsGroupsRow.holds Try.pinned (OpenSpec.ofChange octetsGroupsWrong)

/-- 'shardqueuelaw01.OctetsShortest': WHATEVER THE INPUT: true; the input reads as it did. -/
def octetsShortestSpec : ChangeSpec := { name := "octetsShortest", fn := fun _ => fun
  | [d] => { results := [.lit (.bool true)], args := [d] }
  | _ => none }
def octetsShortestRow : OpenClaim := { program := "ytaoiekcoiooghaa", sum := "6b83e9ad24720456f7c16b80e8083051426bd33d3755e8fc0e70c10682b82419", func := "shardqueue/shardqueuelaw01.OctetsShortest", spec := "octetsShortest", apart := false }
def OctetsShortestSaid : Prop := octetsShortestRow.holds Try.pinned (OpenSpec.ofChange octetsShortestSpec)

/-- ITS FALSE NEIGHBOUR: 'it returns false'. Refute it at one input. -/
def octetsShortestWrong : ChangeSpec := { name := "octetsShortest", fn := fun _ => fun
  | [d] => { results := [.lit (.bool false)], args := [d] }
  | _ => none }
def OctetsShortestWrongFalsely : Prop := octetsShortestRow.holds Try.pinned (OpenSpec.ofChange octetsShortestWrong)

/-- 'shardqueuelaw01.OctetsNumbers': WHATEVER THE INPUT: true; the input reads as it did. -/
def octetsNumbersSpec : ChangeSpec := { name := "octetsNumbers", fn := fun _ => fun
  | [d1, d2, d3, d4] => { results := [.lit (.bool true)], args := [d1, d2, d3, d4] }
  | _ => none }
def octetsNumbersRow : OpenClaim := { program := "ytaoiekcoiooghaa", sum := "6b83e9ad24720456f7c16b80e8083051426bd33d3755e8fc0e70c10682b82419", func := "shardqueue/shardqueuelaw01.OctetsNumbers", spec := "octetsNumbers", apart := false }
def OctetsNumbersSaid : Prop := octetsNumbersRow.holds Try.pinned (OpenSpec.ofChange octetsNumbersSpec)

/-- ITS FALSE NEIGHBOUR: 'it returns false'. Refute it at one input. -/
def octetsNumbersWrong : ChangeSpec := { name := "octetsNumbers", fn := fun _ => fun
  | [d1, d2, d3, d4] => { results := [.lit (.bool false)], args := [d1, d2, d3, d4] }
  | _ => none }
def OctetsNumbersWrongFalsely : Prop := octetsNumbersRow.holds Try.pinned (OpenSpec.ofChange octetsNumbersWrong)

/-- 'shardqueuelaw01.OctetsTexts': WHATEVER THE INPUT: true; the input reads as it did. -/
def octetsTextsSpec : ChangeSpec := { name := "octetsTexts", fn := fun _ => fun
  | [d1, d2, d3, d4] => { results := [.lit (.bool true)], args := [d1, d2, d3, d4] }
  | _ => none }
def octetsTextsRow : OpenClaim := { program := "ytaoiekcoiooghaa", sum := "6b83e9ad24720456f7c16b80e8083051426bd33d3755e8fc0e70c10682b82419", func := "shardqueue/shardqueuelaw01.OctetsTexts", spec := "octetsTexts", apart := false }
def OctetsTextsSaid : Prop := octetsTextsRow.holds Try.pinned (OpenSpec.ofChange octetsTextsSpec)

/-- ITS FALSE NEIGHBOUR: 'it returns false'. Refute it at one input. -/
def octetsTextsWrong : ChangeSpec := { name := "octetsTexts", fn := fun _ => fun
  | [d1, d2, d3, d4] => { results := [.lit (.bool false)], args := [d1, d2, d3, d4] }
  | _ => none }
def OctetsTextsWrongFalsely : Prop := octetsTextsRow.holds Try.pinned (OpenSpec.ofChange octetsTextsWrong)

/-- 'shardqueuelaw02.DigestRoutes': WHATEVER THE INPUT: true; the input reads as it did. -/
def digestRoutesSpec : ChangeSpec := { name := "digestRoutes", fn := fun _ => fun
  | [d1, d2, d3, d4] => { results := [.lit (.bool true)], args := [d1, d2, d3, d4] }
  | _ => none }
def digestRoutesRow : OpenClaim := { program := "ytaoiekcoiooghaa", sum := "6b83e9ad24720456f7c16b80e8083051426bd33d3755e8fc0e70c10682b82419", func := "shardqueue/shardqueuelaw02.DigestRoutes", spec := "digestRoutes", apart := false }
def DigestRoutesSaid : Prop := digestRoutesRow.holds Try.pinned (OpenSpec.ofChange digestRoutesSpec)

/-- ITS FALSE NEIGHBOUR: 'it returns false'. Refute it at one input. -/
def digestRoutesWrong : ChangeSpec := { name := "digestRoutes", fn := fun _ => fun
  | [d1, d2, d3, d4] => { results := [.lit (.bool false)], args := [d1, d2, d3, d4] }
  | _ => none }
def DigestRoutesWrongFalsely : Prop := digestRoutesRow.holds Try.pinned (OpenSpec.ofChange digestRoutesWrong)

/-- 'shardqueuelaw02.DigestSpread': WHATEVER THE INPUT: true; the input reads as it did. -/
def digestSpreadSpec : ChangeSpec := { name := "digestSpread", fn := fun _ => fun
  | [d] => { results := [.lit (.bool true)], args := [d] }
  | _ => none }
def digestSpreadRow : OpenClaim := { program := "ytaoiekcoiooghaa", sum := "6b83e9ad24720456f7c16b80e8083051426bd33d3755e8fc0e70c10682b82419", func := "shardqueue/shardqueuelaw02.DigestSpread", spec := "digestSpread", apart := false }
def DigestSpreadSaid : Prop := digestSpreadRow.holds Try.pinned (OpenSpec.ofChange digestSpreadSpec)

/-- ITS FALSE NEIGHBOUR: 'it returns false'. Refute it at one input. -/
def digestSpreadWrong : ChangeSpec := { name := "digestSpread", fn := fun _ => fun
  | [d] => { results := [.lit (.bool false)], args := [d] }
  | _ => none }
def DigestSpreadWrongFalsely : Prop := digestSpreadRow.holds Try.pinned (OpenSpec.ofChange digestSpreadWrong)

/-- 'shardqueuelaw03.MessageStates': WHATEVER THE INPUT: true; the input reads as it did. -/
def messageStatesSpec : ChangeSpec := { name := "messageStates", fn := fun _ => fun
  | [d1, d2, d3] => { results := [.lit (.bool true)], args := [d1, d2, d3] }
  | _ => none }
def messageStatesRow : OpenClaim := { program := "ytaoiekcoiooghaa", sum := "6b83e9ad24720456f7c16b80e8083051426bd33d3755e8fc0e70c10682b82419", func := "shardqueue/shardqueuelaw03.MessageStates", spec := "messageStates", apart := false }
def MessageStatesSaid : Prop := messageStatesRow.holds Try.pinned (OpenSpec.ofChange messageStatesSpec)

/-- ITS FALSE NEIGHBOUR: 'it returns false'. Refute it at one input. -/
def messageStatesWrong : ChangeSpec := { name := "messageStates", fn := fun _ => fun
  | [d1, d2, d3] => { results := [.lit (.bool false)], args := [d1, d2, d3] }
  | _ => none }
def MessageStatesWrongFalsely : Prop := messageStatesRow.holds Try.pinned (OpenSpec.ofChange messageStatesWrong)

/-- 'shardqueuelaw03.MessageValidates': WHATEVER THE INPUT: true; the input reads as it did. -/
def messageValidatesSpec : ChangeSpec := { name := "messageValidates", fn := fun _ => fun
  | [d1, d2, d3, d4, d5, d6] => { results := [.lit (.bool true)], args := [d1, d2, d3, d4, d5, d6] }
  | _ => none }
def messageValidatesRow : OpenClaim := { program := "ytaoiekcoiooghaa", sum := "6b83e9ad24720456f7c16b80e8083051426bd33d3755e8fc0e70c10682b82419", func := "shardqueue/shardqueuelaw03.MessageValidates", spec := "messageValidates", apart := false }
def MessageValidatesSaid : Prop := messageValidatesRow.holds Try.pinned (OpenSpec.ofChange messageValidatesSpec)

/-- ITS FALSE NEIGHBOUR: 'it returns false'. Refute it at one input. -/
def messageValidatesWrong : ChangeSpec := { name := "messageValidates", fn := fun _ => fun
  | [d1, d2, d3, d4, d5, d6] => { results := [.lit (.bool false)], args := [d1, d2, d3, d4, d5, d6] }
  | _ => none }
def MessageValidatesWrongFalsely : Prop := messageValidatesRow.holds Try.pinned (OpenSpec.ofChange messageValidatesWrong)

/-- 'shardqueuelaw09.HandleRaw': WHATEVER THE INPUT: true; the input reads as it did. -/
def handleRawSpec : ChangeSpec := { name := "handleRaw", fn := fun _ => fun
  | [d1, d2] => { results := [.lit (.bool true)], args := [d1, d2] }
  | _ => none }
def handleRawRow : OpenClaim := { program := "ytaoiekcoiooghaa", sum := "6b83e9ad24720456f7c16b80e8083051426bd33d3755e8fc0e70c10682b82419", func := "shardqueue/shardqueuelaw09.HandleRaw", spec := "handleRaw", apart := false }
def HandleRawSaid : Prop := handleRawRow.holds Try.pinned (OpenSpec.ofChange handleRawSpec)

/-- ITS FALSE NEIGHBOUR: 'it returns false'. Refute it at one input. -/
def handleRawWrong : ChangeSpec := { name := "handleRaw", fn := fun _ => fun
  | [d1, d2] => { results := [.lit (.bool false)], args := [d1, d2] }
  | _ => none }
def HandleRawWrongFalsely : Prop := handleRawRow.holds Try.pinned (OpenSpec.ofChange handleRawWrong)

/-- 'shardqueuelaw09.HandleBack': WHATEVER THE INPUT: true; the input reads as it did. -/
def handleBackSpec : ChangeSpec := { name := "handleBack", fn := fun _ => fun
  | [d1, d2] => { results := [.lit (.bool true)], args := [d1, d2] }
  | _ => none }
def handleBackRow : OpenClaim := { program := "ytaoiekcoiooghaa", sum := "6b83e9ad24720456f7c16b80e8083051426bd33d3755e8fc0e70c10682b82419", func := "shardqueue/shardqueuelaw09.HandleBack", spec := "handleBack", apart := false }
def HandleBackSaid : Prop := handleBackRow.holds Try.pinned (OpenSpec.ofChange handleBackSpec)

/-- ITS FALSE NEIGHBOUR: 'it returns false'. Refute it at one input. -/
def handleBackWrong : ChangeSpec := { name := "handleBack", fn := fun _ => fun
  | [d1, d2] => { results := [.lit (.bool false)], args := [d1, d2] }
  | _ => none }
def HandleBackWrongFalsely : Prop := handleBackRow.holds Try.pinned (OpenSpec.ofChange handleBackWrong)

/-- 'shardqueuelaw09.HandleForged': WHATEVER THE INPUT: true; the input reads as it did. -/
def handleForgedSpec : ChangeSpec := { name := "handleForged", fn := fun _ => fun
  | [d1, d2, d3] => { results := [.lit (.bool true)], args := [d1, d2, d3] }
  | _ => none }
def handleForgedRow : OpenClaim := { program := "ytaoiekcoiooghaa", sum := "6b83e9ad24720456f7c16b80e8083051426bd33d3755e8fc0e70c10682b82419", func := "shardqueue/shardqueuelaw09.HandleForged", spec := "handleForged", apart := false }
def HandleForgedSaid : Prop := handleForgedRow.holds Try.pinned (OpenSpec.ofChange handleForgedSpec)

/-- ITS FALSE NEIGHBOUR: 'it returns false'. Refute it at one input. -/
def handleForgedWrong : ChangeSpec := { name := "handleForged", fn := fun _ => fun
  | [d1, d2, d3] => { results := [.lit (.bool false)], args := [d1, d2, d3] }
  | _ => none }
def HandleForgedWrongFalsely : Prop := handleForgedRow.holds Try.pinned (OpenSpec.ofChange handleForgedWrong)

/-- 'shardqueuelaw09.HandleLimits': WHATEVER THE INPUT: true; the input reads as it did. -/
def handleLimitsSpec : ChangeSpec := { name := "handleLimits", fn := fun _ => fun
  | [d] => { results := [.lit (.bool true)], args := [d] }
  | _ => none }
def handleLimitsRow : OpenClaim := { program := "ytaoiekcoiooghaa", sum := "6b83e9ad24720456f7c16b80e8083051426bd33d3755e8fc0e70c10682b82419", func := "shardqueue/shardqueuelaw09.HandleLimits", spec := "handleLimits", apart := false }
def HandleLimitsSaid : Prop := handleLimitsRow.holds Try.pinned (OpenSpec.ofChange handleLimitsSpec)

/-- ITS FALSE NEIGHBOUR: 'it returns false'. Refute it at one input. -/
def handleLimitsWrong : ChangeSpec := { name := "handleLimits", fn := fun _ => fun
  | [d] => { results := [.lit (.bool false)], args := [d] }
  | _ => none }
def HandleLimitsWrongFalsely : Prop := handleLimitsRow.holds Try.pinned (OpenSpec.ofChange handleLimitsWrong)

/-- 'shardqueuelaw03.MessageChanges': WHATEVER THE INPUT: true; the input reads as it did. -/
def messageChangesSpec : ChangeSpec := { name := "messageChanges", fn := fun _ => fun
  | [d1, d2, d3, d4] => { results := [.lit (.bool true)], args := [d1, d2, d3, d4] }
  | _ => none }
def messageChangesRow : OpenClaim := { program := "ytaoiekcoiooghaa", sum := "6b83e9ad24720456f7c16b80e8083051426bd33d3755e8fc0e70c10682b82419", func := "shardqueue/shardqueuelaw03.MessageChanges", spec := "messageChanges", apart := false }
def MessageChangesSaid : Prop := messageChangesRow.holds Try.pinned (OpenSpec.ofChange messageChangesSpec)

/-- ITS FALSE NEIGHBOUR: 'it returns false'. Refute it at one input. -/
def messageChangesWrong : ChangeSpec := { name := "messageChanges", fn := fun _ => fun
  | [d1, d2, d3, d4] => { results := [.lit (.bool false)], args := [d1, d2, d3, d4] }
  | _ => none }
def MessageChangesWrongFalsely : Prop := messageChangesRow.holds Try.pinned (OpenSpec.ofChange messageChangesWrong)

/-- 'shardqueuelaw01.OctetsBack': WHATEVER THE INPUT: true; the input reads as it did. -/
def octetsBackSpec : ChangeSpec := { name := "octetsBack", fn := fun _ => fun
  | [d1, d2, d3, d4, d5] => { results := [.lit (.bool true)], args := [d1, d2, d3, d4, d5] }
  | _ => none }
def octetsBackRow : OpenClaim := { program := "ytaoiekcoiooghaa", sum := "6b83e9ad24720456f7c16b80e8083051426bd33d3755e8fc0e70c10682b82419", func := "shardqueue/shardqueuelaw01.OctetsBack", spec := "octetsBack", apart := false }
def OctetsBackSaid : Prop := octetsBackRow.holds Try.pinned (OpenSpec.ofChange octetsBackSpec)

/-- ITS FALSE NEIGHBOUR: 'it returns false'. Refute it at one input. -/
def octetsBackWrong : ChangeSpec := { name := "octetsBack", fn := fun _ => fun
  | [d1, d2, d3, d4, d5] => { results := [.lit (.bool false)], args := [d1, d2, d3, d4, d5] }
  | _ => none }
def OctetsBackWrongFalsely : Prop := octetsBackRow.holds Try.pinned (OpenSpec.ofChange octetsBackWrong)

/-- 'shardqueuelaw03.MessageCodes': WHATEVER THE INPUT: true; the input reads as it did. -/
def messageCodesSpec : ChangeSpec := { name := "messageCodes", fn := fun _ => fun
  | [d1, d2, d3] => { results := [.lit (.bool true)], args := [d1, d2, d3] }
  | _ => none }
def messageCodesRow : OpenClaim := { program := "ytaoiekcoiooghaa", sum := "6b83e9ad24720456f7c16b80e8083051426bd33d3755e8fc0e70c10682b82419", func := "shardqueue/shardqueuelaw03.MessageCodes", spec := "messageCodes", apart := false }
def MessageCodesSaid : Prop := messageCodesRow.holds Try.pinned (OpenSpec.ofChange messageCodesSpec)

/-- ITS FALSE NEIGHBOUR: 'it returns false'. Refute it at one input. -/
def messageCodesWrong : ChangeSpec := { name := "messageCodes", fn := fun _ => fun
  | [d1, d2, d3] => { results := [.lit (.bool false)], args := [d1, d2, d3] }
  | _ => none }
def MessageCodesWrongFalsely : Prop := messageCodesRow.holds Try.pinned (OpenSpec.ofChange messageCodesWrong)

/-- 'shardqueuelaw03.MessageBack': WHATEVER THE INPUT: true; the input reads as it did. -/
def messageBackSpec : ChangeSpec := { name := "messageBack", fn := fun _ => fun
  | [d1, d2] => { results := [.lit (.bool true)], args := [d1, d2] }
  | _ => none }
def messageBackRow : OpenClaim := { program := "ytaoiekcoiooghaa", sum := "6b83e9ad24720456f7c16b80e8083051426bd33d3755e8fc0e70c10682b82419", func := "shardqueue/shardqueuelaw03.MessageBack", spec := "messageBack", apart := false }
def MessageBackSaid : Prop := messageBackRow.holds Try.pinned (OpenSpec.ofChange messageBackSpec)

/-- ITS FALSE NEIGHBOUR: 'it returns false'. Refute it at one input. -/
def messageBackWrong : ChangeSpec := { name := "messageBack", fn := fun _ => fun
  | [d1, d2] => { results := [.lit (.bool false)], args := [d1, d2] }
  | _ => none }
def MessageBackWrongFalsely : Prop := messageBackRow.holds Try.pinned (OpenSpec.ofChange messageBackWrong)

/- THE SECOND FORM. 'bulk': how many values and letters a reading holds, each counted each time it is reached (what is shared counts as often as it is met; a slice's spare places count too). A statement '..UptoSaid' is the law's where the arguments, and the package variables that the reading takes, are together of bulk at most 1048576: NARROWER than '..Said'. Prove '..Said' where nothing that the law and all that it calls make is longer than what came in: it says more and counts as full. Else prove '..UptoSaid'. A law counts once. -/
mutual
def uptoBulk {H : Type} : DataW H → Nat
  | .lit (.string bytes) => bytes.length + 1
  | .lit _ => 1
  | .nil => 1
  | .ptr d => uptoBulk d + 1
  | .slice elems spare => uptoBulkAll elems + uptoBulkAll spare + 1
  | .agg parts => uptoBulkAll parts + 1
  | .iface _ d => uptoBulk d + 1
  | .map entries => uptoBulkEntries entries + 1
  | .held _ => 1
def uptoBulkAll {H : Type} : List (DataW H) → Nat
  | [] => 0
  | d :: r => uptoBulk d + uptoBulkAll r
def uptoBulkEntries {H : Type} : List (Lit × DataW H) → Nat
  | [] => 0
  | x :: r => uptoBulkEntry x + uptoBulkEntries r
def uptoBulkEntry {H : Type} : Lit × DataW H → Nat
  | (.string bytes, d) => bytes.length + uptoBulk d + 1
  | (_, d) => uptoBulk d + 1
 end
def uptoSmall : (H : Type) → List (DataW H) → Bool := fun _ ds => decide (uptoBulkAll ds ≤ 1048576)
def OpenSpec.upto (s : _root_.Go.ChangeSpec) : _root_.Go.OpenSpec := { _root_.Go.OpenSpec.ofChange s with cond := some uptoSmall }

/-- 'shardqueuelaw16.WalkRaw', WHERE WHAT IT READS IS OF BULK AT MOST 1048576: true; the input reads as it did. -/
def walkRawUptoRow : OpenClaim := { program := "ytaoiekcoiooghaa", sum := "6b83e9ad24720456f7c16b80e8083051426bd33d3755e8fc0e70c10682b82419", func := "shardqueue/shardqueuelaw16.WalkRaw", spec := "walkRaw", apart := false, narrowed := true }
def WalkRawUptoSaid : Prop := walkRawUptoRow.holds Try.pinned (OpenSpec.upto walkRawSpec)

/-- 'shardqueuelaw16.WalkVisits', WHERE WHAT IT READS IS OF BULK AT MOST 1048576: true; the input reads as it did. -/
def walkVisitsUptoRow : OpenClaim := { program := "ytaoiekcoiooghaa", sum := "6b83e9ad24720456f7c16b80e8083051426bd33d3755e8fc0e70c10682b82419", func := "shardqueue/shardqueuelaw16.WalkVisits", spec := "walkVisits", apart := false, narrowed := true }
def WalkVisitsUptoSaid : Prop := walkVisitsUptoRow.holds Try.pinned (OpenSpec.upto walkVisitsSpec)

/-- 'shardqueuelaw16.WalkCovers', WHERE WHAT IT READS IS OF BULK AT MOST 1048576: true; the input reads as it did. -/
def walkCoversUptoRow : OpenClaim := { program := "ytaoiekcoiooghaa", sum := "6b83e9ad24720456f7c16b80e8083051426bd33d3755e8fc0e70c10682b82419", func := "shardqueue/shardqueuelaw16.WalkCovers", spec := "walkCovers", apart := false, narrowed := true }
def WalkCoversUptoSaid : Prop := walkCoversUptoRow.holds Try.pinned (OpenSpec.upto walkCoversSpec)

/-- 'shardqueuelaw01.OctetsSizes', WHERE WHAT IT READS IS OF BULK AT MOST 1048576: true; the input reads as it did. -/
def octetsSizesUptoRow : OpenClaim := { program := "ytaoiekcoiooghaa", sum := "6b83e9ad24720456f7c16b80e8083051426bd33d3755e8fc0e70c10682b82419", func := "shardqueue/shardqueuelaw01.OctetsSizes", spec := "octetsSizes", apart := false, narrowed := true }
def OctetsSizesUptoSaid : Prop := octetsSizesUptoRow.holds Try.pinned (OpenSpec.upto octetsSizesSpec)

/-- 'shardqueuelaw02.DigestInto', WHERE WHAT IT READS IS OF BULK AT MOST 1048576: true; the input reads as it did. -/
def digestIntoUptoRow : OpenClaim := { program := "ytaoiekcoiooghaa", sum := "6b83e9ad24720456f7c16b80e8083051426bd33d3755e8fc0e70c10682b82419", func := "shardqueue/shardqueuelaw02.DigestInto", spec := "digestInto", apart := false, narrowed := true }
def DigestIntoUptoSaid : Prop := digestIntoUptoRow.holds Try.pinned (OpenSpec.upto digestIntoSpec)

/-- 'shardqueuelaw02.DigestSums', WHERE WHAT IT READS IS OF BULK AT MOST 1048576: true; the input reads as it did. -/
def digestSumsUptoRow : OpenClaim := { program := "ytaoiekcoiooghaa", sum := "6b83e9ad24720456f7c16b80e8083051426bd33d3755e8fc0e70c10682b82419", func := "shardqueue/shardqueuelaw02.DigestSums", spec := "digestSums", apart := false, narrowed := true }
def DigestSumsUptoSaid : Prop := digestSumsUptoRow.holds Try.pinned (OpenSpec.upto digestSumsSpec)

/-- 'shardqueuelaw02.DigestChange', WHERE WHAT IT READS IS OF BULK AT MOST 1048576: true; the input reads as it did. -/
def digestChangeUptoRow : OpenClaim := { program := "ytaoiekcoiooghaa", sum := "6b83e9ad24720456f7c16b80e8083051426bd33d3755e8fc0e70c10682b82419", func := "shardqueue/shardqueuelaw02.DigestChange", spec := "digestChange", apart := false, narrowed := true }
def DigestChangeUptoSaid : Prop := digestChangeUptoRow.holds Try.pinned (OpenSpec.upto digestChangeSpec)

/-- 'shardqueuelaw09.HandleUnique', WHERE WHAT IT READS IS OF BULK AT MOST 1048576: true; the input reads as it did. -/
def handleUniqueUptoRow : OpenClaim := { program := "ytaoiekcoiooghaa", sum := "6b83e9ad24720456f7c16b80e8083051426bd33d3755e8fc0e70c10682b82419", func := "shardqueue/shardqueuelaw09.HandleUnique", spec := "handleUnique", apart := false, narrowed := true }
def HandleUniqueUptoSaid : Prop := handleUniqueUptoRow.holds Try.pinned (OpenSpec.upto handleUniqueSpec)

/-- 'shardqueuelaw01.OctetsGroups', WHERE WHAT IT READS IS OF BULK AT MOST 1048576: true; the input reads as it did. -/
def octetsGroupsUptoRow : OpenClaim := { program := "ytaoiekcoiooghaa", sum := "6b83e9ad24720456f7c16b80e8083051426bd33d3755e8fc0e70c10682b82419", func := "shardqueue/shardqueuelaw01.OctetsGroups", spec := "octetsGroups", apart := false, narrowed := true }
def OctetsGroupsUptoSaid : Prop := octetsGroupsUptoRow.holds Try.pinned (OpenSpec.upto octetsGroupsSpec)

/-- 'shardqueuelaw01.OctetsShortest', WHERE WHAT IT READS IS OF BULK AT MOST 1048576: true; the input reads as it did. -/
def octetsShortestUptoRow : OpenClaim := { program := "ytaoiekcoiooghaa", sum := "6b83e9ad24720456f7c16b80e8083051426bd33d3755e8fc0e70c10682b82419", func := "shardqueue/shardqueuelaw01.OctetsShortest", spec := "octetsShortest", apart := false, narrowed := true }
def OctetsShortestUptoSaid : Prop := octetsShortestUptoRow.holds Try.pinned (OpenSpec.upto octetsShortestSpec)

/-- 'shardqueuelaw01.OctetsNumbers', WHERE WHAT IT READS IS OF BULK AT MOST 1048576: true; the input reads as it did. -/
def octetsNumbersUptoRow : OpenClaim := { program := "ytaoiekcoiooghaa", sum := "6b83e9ad24720456f7c16b80e8083051426bd33d3755e8fc0e70c10682b82419", func := "shardqueue/shardqueuelaw01.OctetsNumbers", spec := "octetsNumbers", apart := false, narrowed := true }
def OctetsNumbersUptoSaid : Prop := octetsNumbersUptoRow.holds Try.pinned (OpenSpec.upto octetsNumbersSpec)

/-- 'shardqueuelaw01.OctetsTexts', WHERE WHAT IT READS IS OF BULK AT MOST 1048576: true; the input reads as it did. -/
def octetsTextsUptoRow : OpenClaim := { program := "ytaoiekcoiooghaa", sum := "6b83e9ad24720456f7c16b80e8083051426bd33d3755e8fc0e70c10682b82419", func := "shardqueue/shardqueuelaw01.OctetsTexts", spec := "octetsTexts", apart := false, narrowed := true }
def OctetsTextsUptoSaid : Prop := octetsTextsUptoRow.holds Try.pinned (OpenSpec.upto octetsTextsSpec)

/-- 'shardqueuelaw02.DigestRoutes', WHERE WHAT IT READS IS OF BULK AT MOST 1048576: true; the input reads as it did. -/
def digestRoutesUptoRow : OpenClaim := { program := "ytaoiekcoiooghaa", sum := "6b83e9ad24720456f7c16b80e8083051426bd33d3755e8fc0e70c10682b82419", func := "shardqueue/shardqueuelaw02.DigestRoutes", spec := "digestRoutes", apart := false, narrowed := true }
def DigestRoutesUptoSaid : Prop := digestRoutesUptoRow.holds Try.pinned (OpenSpec.upto digestRoutesSpec)

/-- 'shardqueuelaw02.DigestSpread', WHERE WHAT IT READS IS OF BULK AT MOST 1048576: true; the input reads as it did. -/
def digestSpreadUptoRow : OpenClaim := { program := "ytaoiekcoiooghaa", sum := "6b83e9ad24720456f7c16b80e8083051426bd33d3755e8fc0e70c10682b82419", func := "shardqueue/shardqueuelaw02.DigestSpread", spec := "digestSpread", apart := false, narrowed := true }
def DigestSpreadUptoSaid : Prop := digestSpreadUptoRow.holds Try.pinned (OpenSpec.upto digestSpreadSpec)

/-- 'shardqueuelaw03.MessageStates', WHERE WHAT IT READS IS OF BULK AT MOST 1048576: true; the input reads as it did. -/
def messageStatesUptoRow : OpenClaim := { program := "ytaoiekcoiooghaa", sum := "6b83e9ad24720456f7c16b80e8083051426bd33d3755e8fc0e70c10682b82419", func := "shardqueue/shardqueuelaw03.MessageStates", spec := "messageStates", apart := false, narrowed := true }
def MessageStatesUptoSaid : Prop := messageStatesUptoRow.holds Try.pinned (OpenSpec.upto messageStatesSpec)

/-- 'shardqueuelaw03.MessageValidates', WHERE WHAT IT READS IS OF BULK AT MOST 1048576: true; the input reads as it did. -/
def messageValidatesUptoRow : OpenClaim := { program := "ytaoiekcoiooghaa", sum := "6b83e9ad24720456f7c16b80e8083051426bd33d3755e8fc0e70c10682b82419", func := "shardqueue/shardqueuelaw03.MessageValidates", spec := "messageValidates", apart := false, narrowed := true }
def MessageValidatesUptoSaid : Prop := messageValidatesUptoRow.holds Try.pinned (OpenSpec.upto messageValidatesSpec)

/-- 'shardqueuelaw09.HandleRaw', WHERE WHAT IT READS IS OF BULK AT MOST 1048576: true; the input reads as it did. -/
def handleRawUptoRow : OpenClaim := { program := "ytaoiekcoiooghaa", sum := "6b83e9ad24720456f7c16b80e8083051426bd33d3755e8fc0e70c10682b82419", func := "shardqueue/shardqueuelaw09.HandleRaw", spec := "handleRaw", apart := false, narrowed := true }
def HandleRawUptoSaid : Prop := handleRawUptoRow.holds Try.pinned (OpenSpec.upto handleRawSpec)

/-- 'shardqueuelaw09.HandleBack', WHERE WHAT IT READS IS OF BULK AT MOST 1048576: true; the input reads as it did. -/
def handleBackUptoRow : OpenClaim := { program := "ytaoiekcoiooghaa", sum := "6b83e9ad24720456f7c16b80e8083051426bd33d3755e8fc0e70c10682b82419", func := "shardqueue/shardqueuelaw09.HandleBack", spec := "handleBack", apart := false, narrowed := true }
def HandleBackUptoSaid : Prop := handleBackUptoRow.holds Try.pinned (OpenSpec.upto handleBackSpec)

/-- 'shardqueuelaw09.HandleForged', WHERE WHAT IT READS IS OF BULK AT MOST 1048576: true; the input reads as it did. -/
def handleForgedUptoRow : OpenClaim := { program := "ytaoiekcoiooghaa", sum := "6b83e9ad24720456f7c16b80e8083051426bd33d3755e8fc0e70c10682b82419", func := "shardqueue/shardqueuelaw09.HandleForged", spec := "handleForged", apart := false, narrowed := true }
def HandleForgedUptoSaid : Prop := handleForgedUptoRow.holds Try.pinned (OpenSpec.upto handleForgedSpec)

/-- 'shardqueuelaw09.HandleLimits', WHERE WHAT IT READS IS OF BULK AT MOST 1048576: true; the input reads as it did. -/
def handleLimitsUptoRow : OpenClaim := { program := "ytaoiekcoiooghaa", sum := "6b83e9ad24720456f7c16b80e8083051426bd33d3755e8fc0e70c10682b82419", func := "shardqueue/shardqueuelaw09.HandleLimits", spec := "handleLimits", apart := false, narrowed := true }
def HandleLimitsUptoSaid : Prop := handleLimitsUptoRow.holds Try.pinned (OpenSpec.upto handleLimitsSpec)

/-- 'shardqueuelaw03.MessageChanges', WHERE WHAT IT READS IS OF BULK AT MOST 1048576: true; the input reads as it did. -/
def messageChangesUptoRow : OpenClaim := { program := "ytaoiekcoiooghaa", sum := "6b83e9ad24720456f7c16b80e8083051426bd33d3755e8fc0e70c10682b82419", func := "shardqueue/shardqueuelaw03.MessageChanges", spec := "messageChanges", apart := false, narrowed := true }
def MessageChangesUptoSaid : Prop := messageChangesUptoRow.holds Try.pinned (OpenSpec.upto messageChangesSpec)

/-- 'shardqueuelaw01.OctetsBack', WHERE WHAT IT READS IS OF BULK AT MOST 1048576: true; the input reads as it did. -/
def octetsBackUptoRow : OpenClaim := { program := "ytaoiekcoiooghaa", sum := "6b83e9ad24720456f7c16b80e8083051426bd33d3755e8fc0e70c10682b82419", func := "shardqueue/shardqueuelaw01.OctetsBack", spec := "octetsBack", apart := false, narrowed := true }
def OctetsBackUptoSaid : Prop := octetsBackUptoRow.holds Try.pinned (OpenSpec.upto octetsBackSpec)

/-- 'shardqueuelaw03.MessageCodes', WHERE WHAT IT READS IS OF BULK AT MOST 1048576: true; the input reads as it did. -/
def messageCodesUptoRow : OpenClaim := { program := "ytaoiekcoiooghaa", sum := "6b83e9ad24720456f7c16b80e8083051426bd33d3755e8fc0e70c10682b82419", func := "shardqueue/shardqueuelaw03.MessageCodes", spec := "messageCodes", apart := false, narrowed := true }
def MessageCodesUptoSaid : Prop := messageCodesUptoRow.holds Try.pinned (OpenSpec.upto messageCodesSpec)

/-- 'shardqueuelaw03.MessageBack', WHERE WHAT IT READS IS OF BULK AT MOST 1048576: true; the input reads as it did. -/
def messageBackUptoRow : OpenClaim := { program := "ytaoiekcoiooghaa", sum := "6b83e9ad24720456f7c16b80e8083051426bd33d3755e8fc0e70c10682b82419", func := "shardqueue/shardqueuelaw03.MessageBack", spec := "messageBack", apart := false, narrowed := true }
def MessageBackUptoSaid : Prop := messageBackUptoRow.holds Try.pinned (OpenSpec.upto messageBackSpec)

end Rows
end Go.Proofs.Ytaoiekcoiooghaa
