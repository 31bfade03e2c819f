/-
  DERIVED. GIVEN WITH THE SEED: THE CARDS: each row of YtgaghaggiblabaaGreatDoorRows.lean that lists a variable, with what it lists TIED to the program's text (the seventh form; the later family's looks); each row that meets fmt, with fmt's text TOLD by the authors' own Lean function (tested against real Go, not proved from fmt's source: count such statements apart). THE CARD IS WHAT COUNTS. Prove the row's statement (the work); the ties are given (YtgaghaggiblabaaGreatDoorTie.lean); close each card by the builder's one call (the guide's Derived/Test/ToyasCard.lean, 'card_holds'). Laid BY PROGRAM, IN A SANDBOX (cutbox-door.mjs). By AI agents, Wed Nov 11 2026. No macro, syntax, notation, axiom, sorry.
-/
import Derived.Test.YtgaghaggiblabaaGreatDoorRows
import GoSem.ClaimSeven
namespace Go.Proofs.YtgaghaggiblabaaGreatDoor
namespace Rows

/-- THE TIED CARD OF 'shardqueuetop.TopContend'. -/
def topContendCard : Claim7 := { stood := { row := topContendRow, standIns := [], harness := (true, "32b8b3f75cb23092c8143f33a56cb1e8634f8609bbdcdd930cdae14c37cda528"), looks := false }, kinds := [], alts := [], laidByText := true, laidKinds := [.data, .data, .data], laidTests := true, laidLooks := .later }
def TopContendCardSaid : Prop := Claim7.holds Tryz.pinned (.plain (OpenSpec.ofChange topContendSpec)) topContendCard

/-- THE SECOND FORM's CARD OF 'shardqueuetop.TopContend'. -/
def topContendUptoCard : Claim7 := { stood := { row := topContendUptoRow, standIns := [], harness := (true, "32b8b3f75cb23092c8143f33a56cb1e8634f8609bbdcdd930cdae14c37cda528"), looks := false }, kinds := [], alts := [], laidByText := true, laidKinds := [.data, .data, .data], laidTests := true, laidLooks := .later }
def TopContendUptoCardSaid : Prop := Claim7.holds Tryz.pinned (.plain (OpenSpec.upto topContendSpec)) topContendUptoCard
end Rows
end Go.Proofs.YtgaghaggiblabaaGreatDoor
