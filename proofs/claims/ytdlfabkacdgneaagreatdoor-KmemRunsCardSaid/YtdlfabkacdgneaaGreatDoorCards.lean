/-
  DERIVED. GIVEN WITH THE SEED: THE CARDS: each row of YtdlfabkacdgneaaGreatDoorRows.lean that lists a variable, with what it lists TIED to the program's text (the seventh form; the later family's looks); each row that meets fmt, with fmt's text TOLD by the authors' own Lean function (tested against real Go, not proved from fmt's source: count such statements apart). THE CARD IS WHAT COUNTS. Prove the row's statement (the work); the ties are given (YtdlfabkacdgneaaGreatDoorTie.lean); close each card by the builder's one call (the guide's Derived/Test/ToyasCard.lean, 'card_holds'). Laid BY PROGRAM, IN A SANDBOX (cutbox-door.mjs). By AI agents, Wed Nov 11 2026. No macro, syntax, notation, axiom, sorry.
-/
import Derived.Test.YtdlfabkacdgneaaGreatDoorRows
import GoSem.ClaimSeven
namespace Go.Proofs.YtdlfabkacdgneaaGreatDoor
namespace Rows

/-- THE TIED CARD OF 'paddocklaw.KmemRuns'. -/
def kmemRunsCard : Claim7 := { stood := { row := kmemRunsRow, standIns := [], harness := (true, "b3314af55c055743049f9da543f848d4d81cbd4f40375b3d5706569b02a80f3d"), looks := false }, kinds := [], alts := [], laidByText := true, laidKinds := [.data, .data, .data, .data, .widerDeep], laidTests := true, laidLooks := .later }
def KmemRunsCardSaid : Prop := Claim7.holds Tryz.pinned (.plain (OpenSpec.ofChange kmemRunsSpec)) kmemRunsCard

/-- THE SECOND FORM's CARD OF 'paddocklaw.KmemRuns'. -/
def kmemRunsUptoCard : Claim7 := { stood := { row := kmemRunsUptoRow, standIns := [], harness := (true, "b3314af55c055743049f9da543f848d4d81cbd4f40375b3d5706569b02a80f3d"), looks := false }, kinds := [], alts := [], laidByText := true, laidKinds := [.data, .data, .data, .data, .widerDeep], laidTests := true, laidLooks := .later }
def KmemRunsUptoCardSaid : Prop := Claim7.holds Tryz.pinned (.plain (OpenSpec.upto kmemRunsSpec)) kmemRunsUptoCard
end Rows
end Go.Proofs.YtdlfabkacdgneaaGreatDoor
