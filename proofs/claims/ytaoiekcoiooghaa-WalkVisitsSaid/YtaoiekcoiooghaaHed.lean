/- The closed facts on the program's head, and the step from a row's own facts to its statement. No condition. -/
import Derived.Test.YtaoiekcoiooghaaFrm
namespace Go.Proofs.Ytaoiekcoiooghaa
open Go.ChangeShapes Go.WideShapes Go.ChangeAt Go.RowKit

def chars (l : List Nat) : List Char := l.map Char.ofNat
/-- The letters of the head's first three words, and of what follows, by number. -/
def headA : List Nat := [104, 97, 114, 110, 101, 115, 115]
def headB : List Nat := [54, 51, 56, 54, 53, 55, 51, 48, 51, 55, 100, 55, 48, 102, 52, 48, 49, 100, 49, 50, 49, 54, 51, 101, 57, 51, 54, 55, 102, 55, 48, 57, 101, 57, 100, 49, 99, 52, 53, 54, 48, 52, 52, 54, 53, 100, 102, 56, 54, 53, 97, 98, 99, 48, 53, 102, 50, 54, 55, 54, 97, 51, 102, 52]
def headC : List Nat := [99, 117, 116]
def headT : List Nat := [97, 116, 32, 115, 104, 97, 114, 100, 113, 117, 101, 117, 101, 47, 115, 104, 97, 114, 100, 113, 117, 101, 117, 101, 108, 97, 119, 49, 54, 46, 87, 97, 108, 107, 82, 97, 119, 32, 115, 104, 97, 114, 100, 113, 117, 101, 117, 101, 47, 115, 104, 97, 114, 100, 113, 117, 101, 117, 101, 108, 97, 119, 49, 54, 46, 87, 97, 108, 107, 86, 105, 115, 105, 116, 115, 32, 115, 104, 97, 114, 100, 113, 117, 101, 117, 101, 47, 115, 104, 97, 114, 100, 113, 117, 101, 117, 101, 108, 97, 119, 49, 54, 46, 87, 97, 108, 107, 67, 111, 118, 101, 114, 115, 32, 115, 104, 97, 114, 100, 113, 117, 101, 117, 101, 47, 115, 104, 97, 114, 100, 113, 117, 101, 117, 101, 108, 97, 119, 48, 49, 46, 79, 99, 116, 101, 116, 115, 83, 105, 122, 101, 115, 32, 115, 104, 97, 114, 100, 113, 117, 101, 117, 101, 47, 115, 104, 97, 114, 100, 113, 117, 101, 117, 101, 108, 97, 119, 48, 50, 46, 68, 105, 103, 101, 115, 116, 73, 110, 116, 111, 32, 115, 104, 97, 114, 100, 113, 117, 101, 117, 101, 47, 115, 104, 97, 114, 100, 113, 117, 101, 117, 101, 108, 97, 119, 48, 50, 46, 68, 105, 103, 101, 115, 116, 83, 117, 109, 115, 32, 115, 104, 97, 114, 100, 113, 117, 101, 117, 101, 47, 115, 104, 97, 114, 100, 113, 117, 101, 117, 101, 108, 97, 119, 48, 50, 46, 68, 105, 103, 101, 115, 116, 67, 104, 97, 110, 103, 101, 32, 115, 104, 97, 114, 100, 113, 117, 101, 117, 101, 47, 115, 104, 97, 114, 100, 113, 117, 101, 117, 101, 108, 97, 119, 48, 57, 46, 72, 97, 110, 100, 108, 101, 85, 110, 105, 113, 117, 101, 32, 115, 104, 97, 114, 100, 113, 117, 101, 117, 101, 47, 115, 104, 97, 114, 100, 113, 117, 101, 117, 101, 108, 97, 119, 48, 49, 46, 79, 99, 116, 101, 116, 115, 71, 114, 111, 117, 112, 115, 32, 115, 104, 97, 114, 100, 113, 117, 101, 117, 101, 47, 115, 104, 97, 114, 100, 113, 117, 101, 117, 101, 108, 97, 119, 48, 49, 46, 79, 99, 116, 101, 116, 115, 83, 104, 111, 114, 116, 101, 115, 116, 32, 115, 104, 97, 114, 100, 113, 117, 101, 117, 101, 47, 115, 104, 97, 114, 100, 113, 117, 101, 117, 101, 108, 97, 119, 48, 49, 46, 79, 99, 116, 101, 116, 115, 78, 117, 109, 98, 101, 114, 115, 32, 115, 104, 97, 114, 100, 113, 117, 101, 117, 101, 47, 115, 104, 97, 114, 100, 113, 117, 101, 117, 101, 108, 97, 119, 48, 49, 46, 79, 99, 116, 101, 116, 115, 84, 101, 120, 116, 115, 32, 115, 104, 97, 114, 100, 113, 117, 101, 117, 101, 47, 115, 104, 97, 114, 100, 113, 117, 101, 117, 101, 108, 97, 119, 48, 50, 46, 68, 105, 103, 101, 115, 116, 82, 111, 117, 116, 101, 115, 32, 115, 104, 97, 114, 100, 113, 117, 101, 117, 101, 47, 115, 104, 97, 114, 100, 113, 117, 101, 117, 101, 108, 97, 119, 48, 50, 46, 68, 105, 103, 101, 115, 116, 83, 112, 114, 101, 97, 100, 32, 115, 104, 97, 114, 100, 113, 117, 101, 117, 101, 47, 115, 104, 97, 114, 100, 113, 117, 101, 117, 101, 108, 97, 119, 48, 51, 46, 77, 101, 115, 115, 97, 103, 101, 83, 116, 97, 116, 101, 115, 32, 115, 104, 97, 114, 100, 113, 117, 101, 117, 101, 47, 115, 104, 97, 114, 100, 113, 117, 101, 117, 101, 108, 97, 119, 48, 51, 46, 77, 101, 115, 115, 97, 103, 101, 86, 97, 108, 105, 100, 97, 116, 101, 115, 32, 115, 104, 97, 114, 100, 113, 117, 101, 117, 101, 47, 115, 104, 97, 114, 100, 113, 117, 101, 117, 101, 108, 97, 119, 48, 57, 46, 72, 97, 110, 100, 108, 101, 82, 97, 119, 32, 115, 104, 97, 114, 100, 113, 117, 101, 117, 101, 47, 115, 104, 97, 114, 100, 113, 117, 101, 117, 101, 108, 97, 119, 48, 57, 46, 72, 97, 110, 100, 108, 101, 66, 97, 99, 107, 32, 115, 104, 97, 114, 100, 113, 117, 101, 117, 101, 47, 115, 104, 97, 114, 100, 113, 117, 101, 117, 101, 108, 97, 119, 48, 57, 46, 72, 97, 110, 100, 108, 101, 70, 111, 114, 103, 101, 100, 32, 115, 104, 97, 114, 100, 113, 117, 101, 117, 101, 47, 115, 104, 97, 114, 100, 113, 117, 101, 117, 101, 108, 97, 119, 48, 57, 46, 72, 97, 110, 100, 108, 101, 76, 105, 109, 105, 116, 115, 32, 115, 104, 97, 114, 100, 113, 117, 101, 117, 101, 47, 115, 104, 97, 114, 100, 113, 117, 101, 117, 101, 108, 97, 119, 48, 51, 46, 77, 101, 115, 115, 97, 103, 101, 67, 104, 97, 110, 103, 101, 115, 32, 115, 104, 97, 114, 100, 113, 117, 101, 117, 101, 47, 115, 104, 97, 114, 100, 113, 117, 101, 117, 101, 108, 97, 119, 48, 49, 46, 79, 99, 116, 101, 116, 115, 66, 97, 99, 107, 32, 115, 104, 97, 114, 100, 113, 117, 101, 117, 101, 47, 115, 104, 97, 114, 100, 113, 117, 101, 117, 101, 108, 97, 119, 48, 51, 46, 77, 101, 115, 115, 97, 103, 101, 67, 111, 100, 101, 115, 32, 115, 104, 97, 114, 100, 113, 117, 101, 117, 101, 47, 115, 104, 97, 114, 100, 113, 117, 101, 117, 101, 108, 97, 119, 48, 51, 46, 77, 101, 115, 115, 97, 103, 101, 66, 97, 99, 107]
theorem words_one (w r : List Char) (h : w.all (fun c => c != Char.ofNat 32) = true) : wordsSigns (w ++ Char.ofNat 32 :: r) = w :: wordsSigns r := by
  induction w with
  | nil => rfl
  | cons c w ih =>
    rw [List.all_cons, Bool.and_eq_true] at h
    have hc : c ≠ Char.ofNat 32 := by simpa using h.1
    rw [List.cons_append, wordsSigns, ih h.2]
    exact hc
set_option maxRecDepth 100000 in
theorem head_is : Try.prog.initOrder = String.ofList (chars headA ++ Char.ofNat 32 :: (chars headB ++ Char.ofNat 32 :: (chars headC ++ Char.ofNat 32 :: chars headT))) := by kernel_rfl
theorem head_words : ∃ rest, wordsSigns Try.prog.initOrder.toList = chars headA :: chars headB :: chars headC :: rest :=
  ⟨wordsSigns (chars headT), by rw [head_is, String.toList_ofList, words_one _ _ (by decide +kernel), words_one _ _ (by decide +kernel), words_one _ _ (by decide +kernel)]⟩
theorem toList_lit {s : String} {l : List Char} (h : s = String.ofList l) : s.toList = l := by rw [h, String.toList_ofList]
theorem tl_gc : ("gc" : String).toList = chars [103, 99] := toList_lit (by kernel_rfl)
theorem tl_spec : ("spec" : String).toList = chars [115, 112, 101, 99] := toList_lit (by kernel_rfl)
theorem tl_stop : ("stop" : String).toList = chars [115, 116, 111, 112] := toList_lit (by kernel_rfl)
theorem tl_carried : ("carried" : String).toList = chars [99, 97, 114, 114, 105, 101, 100] := toList_lit (by kernel_rfl)
theorem tl_cut : ("cut" : String).toList = chars [99, 117, 116] := toList_lit (by kernel_rfl)
theorem tl_harness : ("harness" : String).toList = chars [104, 97, 114, 110, 101, 115, 115] := toList_lit (by kernel_rfl)
theorem tl_ownmain : ("ownmain" : String).toList = chars [111, 119, 110, 109, 97, 105, 110] := toList_lit (by kernel_rfl)
theorem tl_final : ("final" : String).toList = chars [102, 105, 110, 97, 108] := toList_lit (by kernel_rfl)
theorem tl_finals : ("finals" : String).toList = chars [102, 105, 110, 97, 108, 115] := toList_lit (by kernel_rfl)
theorem tl_reflectrows : ("reflectrows" : String).toList = chars [114, 101, 102, 108, 101, 99, 116, 114, 111, 119, 115] := toList_lit (by kernel_rfl)
theorem tl_leanrows : ("leanrows" : String).toList = chars [108, 101, 97, 110, 114, 111, 119, 115] := toList_lit (by kernel_rfl)
theorem tl_onebuild : ("onebuild" : String).toList = chars [111, 110, 101, 98, 117, 105, 108, 100] := toList_lit (by kernel_rfl)
theorem tl_publicsums : ("publicsums" : String).toList = chars [112, 117, 98, 108, 105, 99, 115, 117, 109, 115] := toList_lit (by kernel_rfl)
theorem tl_eqguard : ("eqguard" : String).toList = chars [101, 113, 103, 117, 97, 114, 100] := toList_lit (by kernel_rfl)
theorem tl_ownunsafe : ("ownunsafe" : String).toList = chars [111, 119, 110, 117, 110, 115, 97, 102, 101] := toList_lit (by kernel_rfl)
theorem tl_libbeside : ("libbeside" : String).toList = chars [108, 105, 98, 98, 101, 115, 105, 100, 101] := toList_lit (by kernel_rfl)
theorem tl_ownbeside : ("ownbeside" : String).toList = chars [111, 119, 110, 98, 101, 115, 105, 100, 101] := toList_lit (by kernel_rfl)
theorem tl_reflbeside : ("reflbeside" : String).toList = chars [114, 101, 102, 108, 98, 101, 115, 105, 100, 101] := toList_lit (by kernel_rfl)
theorem tl_aliases : ("aliases" : String).toList = chars [97, 108, 105, 97, 115, 101, 115] := toList_lit (by kernel_rfl)
theorem tl_afterinit : ("afterinit" : String).toList = chars [97, 102, 116, 101, 114, 105, 110, 105, 116] := toList_lit (by kernel_rfl)
theorem tl_crcplain : ("crcplain" : String).toList = chars [99, 114, 99, 112, 108, 97, 105, 110] := toList_lit (by kernel_rfl)
theorem tl_roadunsafe : ("roadunsafe" : String).toList = chars [114, 111, 97, 100, 117, 110, 115, 97, 102, 101] := toList_lit (by kernel_rfl)
theorem tl_fmthandon : ("fmthandon" : String).toList = chars [102, 109, 116, 104, 97, 110, 100, 111, 110] := toList_lit (by kernel_rfl)
theorem head_behind : ∃ rest, behindMainWord (wordsSigns Try.prog.initOrder.toList) = chars headC :: rest := by
  obtain ⟨rest, h⟩ := head_words
  refine ⟨rest, ?_⟩
  rw [h, behindMainWord, tl_harness, tl_ownmain]
  have e : ((chars headA == chars [104, 97, 114, 110, 101, 115, 115] || chars headA == chars [111, 119, 110, 109, 97, 105, 110]) && isSumSigns (chars headB)) = true := by decide +kernel
  rw [if_pos e]
theorem head_strip (rest : List (List Char)) : stripLifts liftWords (chars headC :: rest) = ([], chars headC :: rest) := by
  unfold liftWords
  simp only [stripLifts, tl_finals, tl_reflectrows, tl_leanrows, tl_onebuild, tl_publicsums, tl_eqguard, tl_ownunsafe, tl_libbeside, tl_ownbeside, tl_reflbeside, tl_aliases, tl_afterinit, tl_crcplain, tl_roadunsafe, tl_fmthandon]
  rfl
theorem c_gc : (chars headC == chars [103, 99]) = false := by decide +kernel
theorem c_spec : (chars headC == chars [115, 112, 101, 99]) = false := by decide +kernel
theorem c_cut : (chars headC == chars [99, 117, 116]) = true := by decide +kernel
theorem c_carried : (chars headC == chars [99, 97, 114, 114, 105, 101, 100]) = false := by decide +kernel
theorem c_cut' : (some (chars headC) == some (chars [99, 117, 116])) = true := by decide +kernel
theorem lifts_of {P : Program} {rest : List (List Char)} (h : behindMainWord (wordsSigns P.initOrder.toList) = chars headC :: rest) : P.headLifts = [] := by
  unfold Program.headLifts
  rw [h, head_strip, tl_cut]
  simp only [List.head?_cons, c_cut', if_true]
theorem make_of {P : Program} {rest : List (List Char)} (h : behindMainWord (wordsSigns P.initOrder.toList) = chars headC :: rest) : (P.make == some Make.cut) = true := by
  unfold Program.make
  rw [h]
  simp only [tl_gc, tl_spec, tl_cut, c_gc, c_spec, c_cut, Bool.or_false, Bool.true_or, Bool.false_eq_true, if_false, if_true]
  rfl
theorem may_of {P : Program} {rest : List (List Char)} (h : behindMainWord (wordsSigns P.initOrder.toList) = chars headC :: rest) (h1 : P.laysLater = false) (h2 : P.bearsReflect = false) (h3 : P.doorFits [] = true) : P.mayEnter = true := by
  unfold Program.mayEnter
  rw [h]
  simp only [head_strip, tl_gc, tl_spec, tl_cut, tl_stop, tl_carried, c_gc, c_spec, c_carried, List.head?_cons, c_cut', Bool.false_and, Bool.false_or, Bool.true_and, h1, h2, h3]
  rfl
theorem final_of {P : Program} {rest : List (List Char)} (h : behindMainWord (wordsSigns P.initOrder.toList) = chars headC :: rest) : (false == P.liftsFinal) = true := by
  unfold Program.liftsFinal
  rw [h, lifts_of h]
  simp only [tl_gc, tl_cut, tl_carried, List.head?_cons]
  rfl
theorem fact_later : Try.prog.laysLater = false := by kernel_rfl
theorem fact_reflect : Try.prog.bearsReflect = false := by kernel_rfl
theorem fact_door : Try.prog.doorFits [] = true := by kernel_rfl
theorem fact_make : (Try.prog.make == some Make.cut) = true := by
  obtain ⟨rest, h⟩ := head_behind
  exact make_of h
theorem fact_may : Try.prog.mayEnter = true := by
  obtain ⟨rest, h⟩ := head_behind
  exact may_of h fact_later fact_reflect fact_door
theorem fact_lifts : (false == Try.prog.liftsFinal) = true := by
  obtain ⟨rest, h⟩ := head_behind
  exact final_of h
/-- What is left of a row's closed facts when those on the head are known. -/
def joinedRest (P : Program) (f : FuncId) (fn : Func) (s : ChangeSpec) (c : OpenClaim) : Bool :=
  c.wf (OpenSpec.ofChange s) && laidOutB P && mapsRowed P &&
  fn.params.all (P.readableRec ·) && namedTie P c.named s.vars &&
  (c.stops == []) && (P.stops == []) && (c.knobs == []) && (P.stopKnobs == []) &&
  (c.inPlace == P.inPlace f) && (c.unfollowed == P.unfollowed f) && (c.recurses == P.recurses f) && (c.named == P.varsNamed f) &&
  (c.maps == (fn.params.toList ++ s.plain.varTypes P).any (P.mapsRec ·)) && (c.ifaces == (fn.params.toList ++ s.plain.varTypes P).any (P.ifacesRec ·)) && (c.mapsOut == P.mapsAmong fn.resultTypes.toList) &&
  (c.loops == (fn.params.toList ++ s.plain.varTypes P).any (P.loopsFrom ·)) && (c.wideKeys == (fn.params.toList ++ s.plain.varTypes P ++ fn.resultTypes.toList).any (P.wideKeysFrom ·)) &&
  s.vars.all (P.varReadable ·) && fn.resultTypes.all (fun t => P.readableRec t && decide (t < P.types.size)) && (c.ifacesOut == fn.resultTypes.toList.any (P.ifacesRec ·)) && (c.loopsOut == fn.resultTypes.toList.any (P.loopsFrom ·)) && (c.plainKeys == P.plainKeys) && c.shortTexts.isNone && P.stopsHeard && (c.kinds == (if c.domain.isEmpty then [] else fn.params.toList.map fun t => match P.underlying t with | some (.int k) => some k | _ => none)) && (c.pinned == c.pinnedBy) &&
  (c.veiled == (fn.params.toList ++ s.plain.varTypes P ++ fn.resultTypes.toList).any (P.veiledRec ·)) && c.veiledFits P fn.params.toList (fn.params.toList ++ s.plain.varTypes P ++ fn.resultTypes.toList)
set_option maxRecDepth 100000 in
theorem joined_of {f : FuncId} {fn : Func} {s : ChangeSpec} {c : OpenClaim} (hl : c.lifted = false) (hm : c.make = Make.cut) (h : joinedRest Try.prog f fn s c = true) : joinedFacts Try.prog f fn s c = true := by
  have h1 := fact_make
  have h2 := fact_may
  have h3 := fact_lifts
  rw [← hm] at h1
  rw [← hl] at h3
  unfold joinedRest at h
  unfold joinedFacts
  simp only [Bool.and_eq_true] at h ⊢
  simp only [h1, h2, h3, and_true]
  exact h
end Go.Proofs.Ytaoiekcoiooghaa
