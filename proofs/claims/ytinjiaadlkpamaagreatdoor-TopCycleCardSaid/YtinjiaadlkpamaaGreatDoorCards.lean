/-
  DERIVED. GIVEN WITH THE SEED: THE CARDS: each row of YtinjiaadlkpamaaGreatDoorRows.lean that lists a variable, with what it lists TIED to the program's text (the seventh form; the later family's looks); each row that meets fmt, with fmt's text TOLD by the authors' own Lean function (tested against real Go, not proved from fmt's source: count such statements apart). THE CARD IS WHAT COUNTS. Prove the row's statement (the work); the ties are given (YtinjiaadlkpamaaGreatDoorTie.lean); close each card by the builder's one call (the guide's Derived/Test/ToyasCard.lean, 'card_holds'). Laid BY PROGRAM, IN A SANDBOX (cutbox-door.mjs). By AI agents, Wed Nov 11 2026. No macro, syntax, notation, axiom, sorry.
-/
import Derived.Test.YtinjiaadlkpamaaGreatDoorRows
import GoSem.ClaimSeven
namespace Go.Proofs.YtinjiaadlkpamaaGreatDoor
namespace Rows

/-- THE TIED CARD OF 'shardqueuetop.TopCycle'. -/
def topCycleCard : Claim7 := { stood := { row := topCycleRow, standIns := [], harness := (true, "a78f33410e550758a436b522859297676e1da5c70fe945509295a3fefefffb8c"), looks := false }, kinds := [], alts := [], laidByText := true, laidKinds := [.data, .data, .data], laidTests := true, laidLooks := .later }
def TopCycleCardSaid : Prop := Claim7.holds Tryz.pinned (.plain (OpenSpec.ofChange topCycleSpec)) topCycleCard

/-- THE SECOND FORM's CARD OF 'shardqueuetop.TopCycle'. -/
def topCycleUptoCard : Claim7 := { stood := { row := topCycleUptoRow, standIns := [], harness := (true, "a78f33410e550758a436b522859297676e1da5c70fe945509295a3fefefffb8c"), looks := false }, kinds := [], alts := [], laidByText := true, laidKinds := [.data, .data, .data], laidTests := true, laidLooks := .later }
def TopCycleUptoCardSaid : Prop := Claim7.holds Tryz.pinned (.plain (OpenSpec.upto topCycleSpec)) topCycleUptoCard
end Rows
end Go.Proofs.YtinjiaadlkpamaaGreatDoor
