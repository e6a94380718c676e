/-
  DERIVED. GIVEN WITH THE SEED: THE CARDS: each row of YtfommgdbahemfaaDoorRows.lean that lists a variable, with what it lists TIED to the program's text (the seventh form; the later family's looks); each row that meets fmt, with fmt's text TOLD by the authors' own Lean function (tested against real Go, not proved from fmt's source: count such statements apart). THE CARD IS WHAT COUNTS. Prove the row's statement (the work); the ties are given (YtfommgdbahemfaaDoorTie.lean); close each card by the builder's one call (the guide's Derived/Test/ToyasCard.lean, 'card_holds'). Laid BY PROGRAM, IN A SANDBOX (cutbox-door.mjs). By AI agents, Wed Nov 11 2026. No macro, syntax, notation, axiom, sorry.
-/
import Derived.Test.YtfommgdbahemfaaDoorRows
import GoSem.ClaimSeven
namespace Go.Proofs.YtfommgdbahemfaaDoor
namespace Rows

/-- THE TIED CARD OF 'paddocklaw.BuddyTakes'. -/
def buddyTakesCard : Claim7 := { stood := { row := buddyTakesRow, standIns := [], harness := (true, "7f2a76b8b87a3eb2b03a2ece7eae2f71c974352255d0550cde437df0b2a901c5"), looks := false }, kinds := [], alts := [], laidByText := true, laidKinds := [.data], laidTests := true, laidLooks := .later }
def BuddyTakesCardSaid : Prop := Claim7.holds Tryd.pinned (.plain (OpenSpec.ofChange buddyTakesSpec)) buddyTakesCard

/-- THE TIED CARD OF 'paddocklaw.KmemSizes'. -/
def kmemSizesCard : Claim7 := { stood := { row := kmemSizesRow, standIns := [], harness := (true, "7f2a76b8b87a3eb2b03a2ece7eae2f71c974352255d0550cde437df0b2a901c5"), looks := false }, kinds := [], alts := [], laidByText := true, laidKinds := [.data, .data, .data, .widerDeep], laidTests := true, laidLooks := .later }
def KmemSizesCardSaid : Prop := Claim7.holds Tryd.pinned (.plain (OpenSpec.ofChange kmemSizesSpec)) kmemSizesCard

/-- THE TIED CARD OF 'paddocklaw.PagesAllocs'. -/
def pagesAllocsCard : Claim7 := { stood := { row := pagesAllocsRow, standIns := [], harness := (true, "7f2a76b8b87a3eb2b03a2ece7eae2f71c974352255d0550cde437df0b2a901c5"), looks := false }, kinds := [], alts := [], laidByText := true, laidKinds := [.data], laidTests := true, laidLooks := .later }
def PagesAllocsCardSaid : Prop := Claim7.holds Tryd.pinned (.plain (OpenSpec.ofChange pagesAllocsSpec)) pagesAllocsCard

/-- THE SECOND FORM's CARD OF 'paddocklaw.BuddyTakes'. -/
def buddyTakesUptoCard : Claim7 := { stood := { row := buddyTakesUptoRow, standIns := [], harness := (true, "7f2a76b8b87a3eb2b03a2ece7eae2f71c974352255d0550cde437df0b2a901c5"), looks := false }, kinds := [], alts := [], laidByText := true, laidKinds := [.data], laidTests := true, laidLooks := .later }
def BuddyTakesUptoCardSaid : Prop := Claim7.holds Tryd.pinned (.plain (OpenSpec.upto buddyTakesSpec)) buddyTakesUptoCard

/-- THE SECOND FORM's CARD OF 'paddocklaw.KmemSizes'. -/
def kmemSizesUptoCard : Claim7 := { stood := { row := kmemSizesUptoRow, standIns := [], harness := (true, "7f2a76b8b87a3eb2b03a2ece7eae2f71c974352255d0550cde437df0b2a901c5"), looks := false }, kinds := [], alts := [], laidByText := true, laidKinds := [.data, .data, .data, .widerDeep], laidTests := true, laidLooks := .later }
def KmemSizesUptoCardSaid : Prop := Claim7.holds Tryd.pinned (.plain (OpenSpec.upto kmemSizesSpec)) kmemSizesUptoCard

/-- THE SECOND FORM's CARD OF 'paddocklaw.PagesAllocs'. -/
def pagesAllocsUptoCard : Claim7 := { stood := { row := pagesAllocsUptoRow, standIns := [], harness := (true, "7f2a76b8b87a3eb2b03a2ece7eae2f71c974352255d0550cde437df0b2a901c5"), looks := false }, kinds := [], alts := [], laidByText := true, laidKinds := [.data], laidTests := true, laidLooks := .later }
def PagesAllocsUptoCardSaid : Prop := Claim7.holds Tryd.pinned (.plain (OpenSpec.upto pagesAllocsSpec)) pagesAllocsUptoCard
end Rows
end Go.Proofs.YtfommgdbahemfaaDoor
