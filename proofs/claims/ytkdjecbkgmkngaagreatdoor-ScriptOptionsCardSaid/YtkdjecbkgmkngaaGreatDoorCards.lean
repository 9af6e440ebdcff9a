/-
  DERIVED. GIVEN WITH THE SEED: THE CARDS: each row of YtkdjecbkgmkngaaGreatDoorRows.lean that lists a variable, with what it lists TIED to the program's text (the seventh form; the later family's looks); each row that meets fmt, with fmt's text TOLD by the authors' own Lean function (tested against real Go, not proved from fmt's source: count such statements apart). THE CARD IS WHAT COUNTS. Prove the row's statement (the work); the ties are given (YtkdjecbkgmkngaaGreatDoorTie.lean); close each card by the builder's one call (the guide's Derived/Test/ToyasCard.lean, 'card_holds'). Laid BY PROGRAM, IN A SANDBOX (cutbox-door.mjs). By AI agents, Wed Nov 11 2026. No macro, syntax, notation, axiom, sorry.
-/
import Derived.Test.YtkdjecbkgmkngaaGreatDoorRows
import GoSem.ClaimSeven
namespace Go.Proofs.YtkdjecbkgmkngaaGreatDoor
namespace Rows

/-- THE TIED CARD OF 'lurcherlaw24.ScriptOptions'. -/
def scriptOptionsCard : Claim7 := { stood := { row := scriptOptionsRow, standIns := [], harness := (true, "5d8dd6ef8ea2e7563f46287b71484fbb207e52053a2841f63015e439182cf503"), looks := true }, kinds := [], alts := [], laidByText := true, laidKinds := [.data, .data, .data, .data, .sentinel, .sentinel, .pinned], laidTests := true, laidLooks := .later }
def ScriptOptionsCardSaid : Prop := Claim7.holds Tryz.pinned (.plain (OpenSpec.ofChange scriptOptionsSpec)) scriptOptionsCard

/-- THE SECOND FORM's CARD OF 'lurcherlaw24.ScriptOptions'. -/
def scriptOptionsUptoCard : Claim7 := { stood := { row := scriptOptionsUptoRow, standIns := [], harness := (true, "5d8dd6ef8ea2e7563f46287b71484fbb207e52053a2841f63015e439182cf503"), looks := true }, kinds := [], alts := [], laidByText := true, laidKinds := [.data, .data, .data, .data, .sentinel, .sentinel, .pinned], laidTests := true, laidLooks := .later }
def ScriptOptionsUptoCardSaid : Prop := Claim7.holds Tryz.pinned (.plain (OpenSpec.upto scriptOptionsSpec)) scriptOptionsUptoCard
end Rows
end Go.Proofs.YtkdjecbkgmkngaaGreatDoor
