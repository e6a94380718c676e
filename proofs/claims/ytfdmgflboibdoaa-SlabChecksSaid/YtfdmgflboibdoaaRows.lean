/-
  No cell of these rows narrows 'for every input' (looked for: loops, veiled, ifaces, maps, wideKeys, modest, calm, conditions, laid).
  DERIVED. THE GIVEN ROWS OF THIS SEAT. 20 by the template 'for every input the law returns true; each argument reads behind the call as it read before'; 0 by the template 'total and deterministic' (their statements: YtfdmgflboibdoaaTotals.lean).
  GIVEN WITH THE SEED: the statements are not yours to turn. If you find one false, say at which input.
  Laid BY PROGRAM, IN A SANDBOX (cutbox-rows.mjs): the forced cells as the released guide's own fill.sh prints them over the translation 8b6aea0f1a0790bb… (all of the seat's roots in one cut). By AI agents, Wed Nov 11 2026. No macro, syntax, notation, axiom, sorry.
-/
import Derived.Test.YtfdmgflboibdoaaChecked
import GoSem.Claim
import GoSem.ClaimJoined
import GoSem.ClaimMapViews
import Derived.JoinedTies
import Derived.KernelRfl
namespace Go.Proofs.Ytfdmgflboibdoaa
/- THE CELL 'sum', in the pinned program and in every row, IS THE sha256 OF THE DUMP (.gsa) THAT YtfdmgflboibdoaaProg.lean LOADS. Nothing in Lean hashes anything: it is a label: what it is worth is what the hold of that sum in a sandbox is worth. -/
noncomputable def Try.pinned : Pinned := { name := "ytfdmgflboibdoaa", sum := "8b6aea0f1a0790bb5d70aa31b3796301f017c52652f8063ec34b1605d37bda5e", checked := Try.checked }
namespace Rows
def none {H : Type} : Left H := { results := [], args := [] }

/-- 'paddocklaw.PagesCopies': WHATEVER THE INPUT: true; the input reads as it did. -/
def pagesCopiesSpec : ChangeSpec := { name := "pagesCopies", fn := fun _ => fun
  | [d] => { results := [.lit (.bool true)], args := [d] }
  | _ => none }
def pagesCopiesRow : OpenClaim := { program := "ytfdmgflboibdoaa", sum := "8b6aea0f1a0790bb5d70aa31b3796301f017c52652f8063ec34b1605d37bda5e", func := "paddock/paddocklaw.PagesCopies", spec := "pagesCopies", apart := false }
def PagesCopiesSaid : Prop := pagesCopiesRow.holds Try.pinned (OpenSpec.ofChange pagesCopiesSpec)

/-- ITS FALSE NEIGHBOUR: 'it returns false'. Refute it at one input. -/
def pagesCopiesWrong : ChangeSpec := { name := "pagesCopies", fn := fun _ => fun
  | [d] => { results := [.lit (.bool false)], args := [d] }
  | _ => none }
def PagesCopiesWrongFalsely : Prop := pagesCopiesRow.holds Try.pinned (OpenSpec.ofChange pagesCopiesWrong)

/-- 'paddocklaw.SlabCopies': WHATEVER THE INPUT: true; the input reads as it did. -/
def slabCopiesSpec : ChangeSpec := { name := "slabCopies", fn := fun _ => fun
  | [d] => { results := [.lit (.bool true)], args := [d] }
  | _ => none }
def slabCopiesRow : OpenClaim := { program := "ytfdmgflboibdoaa", sum := "8b6aea0f1a0790bb5d70aa31b3796301f017c52652f8063ec34b1605d37bda5e", func := "paddock/paddocklaw.SlabCopies", spec := "slabCopies", apart := false }
def SlabCopiesSaid : Prop := slabCopiesRow.holds Try.pinned (OpenSpec.ofChange slabCopiesSpec)

/-- ITS FALSE NEIGHBOUR: 'it returns false'. Refute it at one input. -/
def slabCopiesWrong : ChangeSpec := { name := "slabCopies", fn := fun _ => fun
  | [d] => { results := [.lit (.bool false)], args := [d] }
  | _ => none }
def SlabCopiesWrongFalsely : Prop := slabCopiesRow.holds Try.pinned (OpenSpec.ofChange slabCopiesWrong)

/-- 'paddocklaw.BuddyChecks': WHATEVER THE INPUT: true; the input reads as it did. -/
def buddyChecksSpec : ChangeSpec := { name := "buddyChecks", fn := fun _ => fun
  | [d] => { results := [.lit (.bool true)], args := [d] }
  | _ => none }
def buddyChecksRow : OpenClaim := { program := "ytfdmgflboibdoaa", sum := "8b6aea0f1a0790bb5d70aa31b3796301f017c52652f8063ec34b1605d37bda5e", func := "paddock/paddocklaw.BuddyChecks", spec := "buddyChecks", unfollowed := true, recurses := true, apart := false }
def BuddyChecksSaid : Prop := buddyChecksRow.holds Try.pinned (OpenSpec.ofChange buddyChecksSpec)

/-- ITS FALSE NEIGHBOUR: 'it returns false'. Refute it at one input. -/
def buddyChecksWrong : ChangeSpec := { name := "buddyChecks", fn := fun _ => fun
  | [d] => { results := [.lit (.bool false)], args := [d] }
  | _ => none }
def BuddyChecksWrongFalsely : Prop := buddyChecksRow.holds Try.pinned (OpenSpec.ofChange buddyChecksWrong)

/-- 'paddocklaw.BuddyTypes': WHATEVER THE INPUT: true; the input reads as it did. -/
def buddyTypesSpec : ChangeSpec := { name := "buddyTypes", fn := fun _ => fun
  | [d1, d2] => { results := [.lit (.bool true)], args := [d1, d2] }
  | _ => none }
def buddyTypesRow : OpenClaim := { program := "ytfdmgflboibdoaa", sum := "8b6aea0f1a0790bb5d70aa31b3796301f017c52652f8063ec34b1605d37bda5e", func := "paddock/paddocklaw.BuddyTypes", spec := "buddyTypes", unfollowed := true, recurses := true, apart := false }
def BuddyTypesSaid : Prop := buddyTypesRow.holds Try.pinned (OpenSpec.ofChange buddyTypesSpec)

/-- ITS FALSE NEIGHBOUR: 'it returns false'. Refute it at one input. -/
def buddyTypesWrong : ChangeSpec := { name := "buddyTypes", fn := fun _ => fun
  | [d1, d2] => { results := [.lit (.bool false)], args := [d1, d2] }
  | _ => none }
def BuddyTypesWrongFalsely : Prop := buddyTypesRow.holds Try.pinned (OpenSpec.ofChange buddyTypesWrong)

/-- 'paddocklaw.BuddyPages': WHATEVER THE INPUT: true; the input reads as it did. -/
def buddyPagesSpec : ChangeSpec := { name := "buddyPages", fn := fun _ => fun
  | [d] => { results := [.lit (.bool true)], args := [d] }
  | _ => none }
def buddyPagesRow : OpenClaim := { program := "ytfdmgflboibdoaa", sum := "8b6aea0f1a0790bb5d70aa31b3796301f017c52652f8063ec34b1605d37bda5e", func := "paddock/paddocklaw.BuddyPages", spec := "buddyPages", unfollowed := true, recurses := true, apart := false }
def BuddyPagesSaid : Prop := buddyPagesRow.holds Try.pinned (OpenSpec.ofChange buddyPagesSpec)

/-- ITS FALSE NEIGHBOUR: 'it returns false'. Refute it at one input. -/
def buddyPagesWrong : ChangeSpec := { name := "buddyPages", fn := fun _ => fun
  | [d] => { results := [.lit (.bool false)], args := [d] }
  | _ => none }
def BuddyPagesWrongFalsely : Prop := buddyPagesRow.holds Try.pinned (OpenSpec.ofChange buddyPagesWrong)

/-- 'paddocklaw.BootRanges': WHATEVER THE INPUT: true; the input reads as it did. -/
def bootRangesSpec : ChangeSpec := { name := "bootRanges", fn := fun _ => fun
  | [d] => { results := [.lit (.bool true)], args := [d] }
  | _ => none }
def bootRangesRow : OpenClaim := { program := "ytfdmgflboibdoaa", sum := "8b6aea0f1a0790bb5d70aa31b3796301f017c52652f8063ec34b1605d37bda5e", func := "paddock/paddocklaw.BootRanges", spec := "bootRanges", unfollowed := true, recurses := true, apart := false }
def BootRangesSaid : Prop := bootRangesRow.holds Try.pinned (OpenSpec.ofChange bootRangesSpec)

/-- ITS FALSE NEIGHBOUR: 'it returns false'. Refute it at one input. -/
def bootRangesWrong : ChangeSpec := { name := "bootRanges", fn := fun _ => fun
  | [d] => { results := [.lit (.bool false)], args := [d] }
  | _ => none }
def BootRangesWrongFalsely : Prop := bootRangesRow.holds Try.pinned (OpenSpec.ofChange bootRangesWrong)

/-- 'paddocklaw.BootAdds': WHATEVER THE INPUT: true; the input reads as it did. -/
def bootAddsSpec : ChangeSpec := { name := "bootAdds", fn := fun _ => fun
  | [d1, d2] => { results := [.lit (.bool true)], args := [d1, d2] }
  | _ => none }
def bootAddsRow : OpenClaim := { program := "ytfdmgflboibdoaa", sum := "8b6aea0f1a0790bb5d70aa31b3796301f017c52652f8063ec34b1605d37bda5e", func := "paddock/paddocklaw.BootAdds", spec := "bootAdds", unfollowed := true, recurses := true, apart := false }
def BootAddsSaid : Prop := bootAddsRow.holds Try.pinned (OpenSpec.ofChange bootAddsSpec)

/-- ITS FALSE NEIGHBOUR: 'it returns false'. Refute it at one input. -/
def bootAddsWrong : ChangeSpec := { name := "bootAdds", fn := fun _ => fun
  | [d1, d2] => { results := [.lit (.bool false)], args := [d1, d2] }
  | _ => none }
def BootAddsWrongFalsely : Prop := bootAddsRow.holds Try.pinned (OpenSpec.ofChange bootAddsWrong)

/-- 'paddocklaw.BootRemoves': WHATEVER THE INPUT: true; the input reads as it did. -/
def bootRemovesSpec : ChangeSpec := { name := "bootRemoves", fn := fun _ => fun
  | [d1, d2] => { results := [.lit (.bool true)], args := [d1, d2] }
  | _ => none }
def bootRemovesRow : OpenClaim := { program := "ytfdmgflboibdoaa", sum := "8b6aea0f1a0790bb5d70aa31b3796301f017c52652f8063ec34b1605d37bda5e", func := "paddock/paddocklaw.BootRemoves", spec := "bootRemoves", unfollowed := true, recurses := true, apart := false }
def BootRemovesSaid : Prop := bootRemovesRow.holds Try.pinned (OpenSpec.ofChange bootRemovesSpec)

/-- ITS FALSE NEIGHBOUR: 'it returns false'. Refute it at one input. -/
def bootRemovesWrong : ChangeSpec := { name := "bootRemoves", fn := fun _ => fun
  | [d1, d2] => { results := [.lit (.bool false)], args := [d1, d2] }
  | _ => none }
def BootRemovesWrongFalsely : Prop := bootRemovesRow.holds Try.pinned (OpenSpec.ofChange bootRemovesWrong)

/-- 'paddocklaw.BootReserves': WHATEVER THE INPUT: true; the input reads as it did. -/
def bootReservesSpec : ChangeSpec := { name := "bootReserves", fn := fun _ => fun
  | [d1, d2] => { results := [.lit (.bool true)], args := [d1, d2] }
  | _ => none }
def bootReservesRow : OpenClaim := { program := "ytfdmgflboibdoaa", sum := "8b6aea0f1a0790bb5d70aa31b3796301f017c52652f8063ec34b1605d37bda5e", func := "paddock/paddocklaw.BootReserves", spec := "bootReserves", unfollowed := true, recurses := true, apart := false }
def BootReservesSaid : Prop := bootReservesRow.holds Try.pinned (OpenSpec.ofChange bootReservesSpec)

/-- ITS FALSE NEIGHBOUR: 'it returns false'. Refute it at one input. -/
def bootReservesWrong : ChangeSpec := { name := "bootReserves", fn := fun _ => fun
  | [d1, d2] => { results := [.lit (.bool false)], args := [d1, d2] }
  | _ => none }
def BootReservesWrongFalsely : Prop := bootReservesRow.holds Try.pinned (OpenSpec.ofChange bootReservesWrong)

/-- 'paddocklaw.BootFrees': WHATEVER THE INPUT: true; the input reads as it did. -/
def bootFreesSpec : ChangeSpec := { name := "bootFrees", fn := fun _ => fun
  | [d1, d2] => { results := [.lit (.bool true)], args := [d1, d2] }
  | _ => none }
def bootFreesRow : OpenClaim := { program := "ytfdmgflboibdoaa", sum := "8b6aea0f1a0790bb5d70aa31b3796301f017c52652f8063ec34b1605d37bda5e", func := "paddock/paddocklaw.BootFrees", spec := "bootFrees", unfollowed := true, recurses := true, apart := false }
def BootFreesSaid : Prop := bootFreesRow.holds Try.pinned (OpenSpec.ofChange bootFreesSpec)

/-- ITS FALSE NEIGHBOUR: 'it returns false'. Refute it at one input. -/
def bootFreesWrong : ChangeSpec := { name := "bootFrees", fn := fun _ => fun
  | [d1, d2] => { results := [.lit (.bool false)], args := [d1, d2] }
  | _ => none }
def BootFreesWrongFalsely : Prop := bootFreesRow.holds Try.pinned (OpenSpec.ofChange bootFreesWrong)

/-- 'paddocklaw.PagesChecks': WHATEVER THE INPUT: true; the input reads as it did. -/
def pagesChecksSpec : ChangeSpec := { name := "pagesChecks", fn := fun _ => fun
  | [d] => { results := [.lit (.bool true)], args := [d] }
  | _ => none }
def pagesChecksRow : OpenClaim := { program := "ytfdmgflboibdoaa", sum := "8b6aea0f1a0790bb5d70aa31b3796301f017c52652f8063ec34b1605d37bda5e", func := "paddock/paddocklaw.PagesChecks", spec := "pagesChecks", unfollowed := true, recurses := true, apart := false }
def PagesChecksSaid : Prop := pagesChecksRow.holds Try.pinned (OpenSpec.ofChange pagesChecksSpec)

/-- ITS FALSE NEIGHBOUR: 'it returns false'. Refute it at one input. -/
def pagesChecksWrong : ChangeSpec := { name := "pagesChecks", fn := fun _ => fun
  | [d] => { results := [.lit (.bool false)], args := [d] }
  | _ => none }
def PagesChecksWrongFalsely : Prop := pagesChecksRow.holds Try.pinned (OpenSpec.ofChange pagesChecksWrong)

/-- 'paddocklaw.BootAllocs': WHATEVER THE INPUT: true; the input reads as it did. -/
def bootAllocsSpec : ChangeSpec := { name := "bootAllocs", fn := fun _ => fun
  | [d1, d2, d3, d4, d5, d6] => { results := [.lit (.bool true)], args := [d1, d2, d3, d4, d5, d6] }
  | _ => none }
def bootAllocsRow : OpenClaim := { program := "ytfdmgflboibdoaa", sum := "8b6aea0f1a0790bb5d70aa31b3796301f017c52652f8063ec34b1605d37bda5e", func := "paddock/paddocklaw.BootAllocs", spec := "bootAllocs", unfollowed := true, recurses := true, apart := false }
def BootAllocsSaid : Prop := bootAllocsRow.holds Try.pinned (OpenSpec.ofChange bootAllocsSpec)

/-- ITS FALSE NEIGHBOUR: 'it returns false'. Refute it at one input. -/
def bootAllocsWrong : ChangeSpec := { name := "bootAllocs", fn := fun _ => fun
  | [d1, d2, d3, d4, d5, d6] => { results := [.lit (.bool false)], args := [d1, d2, d3, d4, d5, d6] }
  | _ => none }
def BootAllocsWrongFalsely : Prop := bootAllocsRow.holds Try.pinned (OpenSpec.ofChange bootAllocsWrong)

/-- 'paddocklaw.BuddyBacks': WHATEVER THE INPUT: true; the input reads as it did. -/
def buddyBacksSpec : ChangeSpec := { name := "buddyBacks", fn := fun _ => fun
  | [d1, d2, d3] => { results := [.lit (.bool true)], args := [d1, d2, d3] }
  | _ => none }
def buddyBacksRow : OpenClaim := { program := "ytfdmgflboibdoaa", sum := "8b6aea0f1a0790bb5d70aa31b3796301f017c52652f8063ec34b1605d37bda5e", func := "paddock/paddocklaw.BuddyBacks", spec := "buddyBacks", inPlace := ["slices.overlaps[paddock/api.Block]"], unfollowed := true, recurses := true, apart := false }
def BuddyBacksSaid : Prop := buddyBacksRow.holds Try.pinned (OpenSpec.ofChange buddyBacksSpec)

/-- ITS FALSE NEIGHBOUR: 'it returns false'. Refute it at one input. -/
def buddyBacksWrong : ChangeSpec := { name := "buddyBacks", fn := fun _ => fun
  | [d1, d2, d3] => { results := [.lit (.bool false)], args := [d1, d2, d3] }
  | _ => none }
def BuddyBacksWrongFalsely : Prop := buddyBacksRow.holds Try.pinned (OpenSpec.ofChange buddyBacksWrong)

/-- 'paddocklaw.SlabChecks': WHATEVER THE INPUT: true; the input reads as it did. -/
def slabChecksSpec : ChangeSpec := { name := "slabChecks", fn := fun _ => fun
  | [d] => { results := [.lit (.bool true)], args := [d] }
  | _ => none }
def slabChecksRow : OpenClaim := { program := "ytfdmgflboibdoaa", sum := "8b6aea0f1a0790bb5d70aa31b3796301f017c52652f8063ec34b1605d37bda5e", func := "paddock/paddocklaw.SlabChecks", spec := "slabChecks", unfollowed := true, recurses := true, apart := false }
def SlabChecksSaid : Prop := slabChecksRow.holds Try.pinned (OpenSpec.ofChange slabChecksSpec)

/-- ITS FALSE NEIGHBOUR: 'it returns false'. Refute it at one input. -/
def slabChecksWrong : ChangeSpec := { name := "slabChecks", fn := fun _ => fun
  | [d] => { results := [.lit (.bool false)], args := [d] }
  | _ => none }
def SlabChecksWrongFalsely : Prop := slabChecksRow.holds Try.pinned (OpenSpec.ofChange slabChecksWrong)

/-- 'paddocklaw.BuddyGives': WHATEVER THE INPUT: true; the input reads as it did. -/
def buddyGivesSpec : ChangeSpec := { name := "buddyGives", fn := fun _ => fun
  | [d1, d2, d3] => { results := [.lit (.bool true)], args := [d1, d2, d3] }
  | _ => none }
def buddyGivesRow : OpenClaim := { program := "ytfdmgflboibdoaa", sum := "8b6aea0f1a0790bb5d70aa31b3796301f017c52652f8063ec34b1605d37bda5e", func := "paddock/paddocklaw.BuddyGives", spec := "buddyGives", inPlace := ["slices.overlaps[paddock/api.Block]"], unfollowed := true, recurses := true, apart := false }
def BuddyGivesSaid : Prop := buddyGivesRow.holds Try.pinned (OpenSpec.ofChange buddyGivesSpec)

/-- ITS FALSE NEIGHBOUR: 'it returns false'. Refute it at one input. -/
def buddyGivesWrong : ChangeSpec := { name := "buddyGives", fn := fun _ => fun
  | [d1, d2, d3] => { results := [.lit (.bool false)], args := [d1, d2, d3] }
  | _ => none }
def BuddyGivesWrongFalsely : Prop := buddyGivesRow.holds Try.pinned (OpenSpec.ofChange buddyGivesWrong)

/-- 'paddocklaw.SlabFinds': WHATEVER THE INPUT: true; the input reads as it did. -/
def slabFindsSpec : ChangeSpec := { name := "slabFinds", fn := fun _ => fun
  | [d1, d2] => { results := [.lit (.bool true)], args := [d1, d2] }
  | _ => none }
def slabFindsRow : OpenClaim := { program := "ytfdmgflboibdoaa", sum := "8b6aea0f1a0790bb5d70aa31b3796301f017c52652f8063ec34b1605d37bda5e", func := "paddock/paddocklaw.SlabFinds", spec := "slabFinds", unfollowed := true, recurses := true, apart := false }
def SlabFindsSaid : Prop := slabFindsRow.holds Try.pinned (OpenSpec.ofChange slabFindsSpec)

/-- ITS FALSE NEIGHBOUR: 'it returns false'. Refute it at one input. -/
def slabFindsWrong : ChangeSpec := { name := "slabFinds", fn := fun _ => fun
  | [d1, d2] => { results := [.lit (.bool false)], args := [d1, d2] }
  | _ => none }
def SlabFindsWrongFalsely : Prop := slabFindsRow.holds Try.pinned (OpenSpec.ofChange slabFindsWrong)

/-- 'paddocklaw.PagesNew': WHATEVER THE INPUT: true; the input reads as it did. -/
def pagesNewSpec : ChangeSpec := { name := "pagesNew", fn := fun _ => fun
  | [d1, d2, d3, d4] => { results := [.lit (.bool true)], args := [d1, d2, d3, d4] }
  | _ => none }
def pagesNewRow : OpenClaim := { program := "ytfdmgflboibdoaa", sum := "8b6aea0f1a0790bb5d70aa31b3796301f017c52652f8063ec34b1605d37bda5e", func := "paddock/paddocklaw.PagesNew", spec := "pagesNew", inPlace := ["slices.overlaps[paddock/api.Block]"], unfollowed := true, recurses := true, apart := false }
def PagesNewSaid : Prop := pagesNewRow.holds Try.pinned (OpenSpec.ofChange pagesNewSpec)

/-- ITS FALSE NEIGHBOUR: 'it returns false'. Refute it at one input. -/
def pagesNewWrong : ChangeSpec := { name := "pagesNew", fn := fun _ => fun
  | [d1, d2, d3, d4] => { results := [.lit (.bool false)], args := [d1, d2, d3, d4] }
  | _ => none }
def PagesNewWrongFalsely : Prop := pagesNewRow.holds Try.pinned (OpenSpec.ofChange pagesNewWrong)

/-- 'paddocklaw.PagesDrains': WHATEVER THE INPUT: true; the input reads as it did. -/
def pagesDrainsSpec : ChangeSpec := { name := "pagesDrains", fn := fun _ => fun
  | [d] => { results := [.lit (.bool true)], args := [d] }
  | _ => none }
def pagesDrainsRow : OpenClaim := { program := "ytfdmgflboibdoaa", sum := "8b6aea0f1a0790bb5d70aa31b3796301f017c52652f8063ec34b1605d37bda5e", func := "paddock/paddocklaw.PagesDrains", spec := "pagesDrains", inPlace := ["slices.overlaps[paddock/api.Block]"], unfollowed := true, recurses := true, apart := false }
def PagesDrainsSaid : Prop := pagesDrainsRow.holds Try.pinned (OpenSpec.ofChange pagesDrainsSpec)

/-- ITS FALSE NEIGHBOUR: 'it returns false'. Refute it at one input. -/
def pagesDrainsWrong : ChangeSpec := { name := "pagesDrains", fn := fun _ => fun
  | [d] => { results := [.lit (.bool false)], args := [d] }
  | _ => none }
def PagesDrainsWrongFalsely : Prop := pagesDrainsRow.holds Try.pinned (OpenSpec.ofChange pagesDrainsWrong)

/-- 'paddocklaw.PagesFrees': WHATEVER THE INPUT: true; the input reads as it did. -/
def pagesFreesSpec : ChangeSpec := { name := "pagesFrees", fn := fun _ => fun
  | [d1, d2, d3] => { results := [.lit (.bool true)], args := [d1, d2, d3] }
  | _ => none }
def pagesFreesRow : OpenClaim := { program := "ytfdmgflboibdoaa", sum := "8b6aea0f1a0790bb5d70aa31b3796301f017c52652f8063ec34b1605d37bda5e", func := "paddock/paddocklaw.PagesFrees", spec := "pagesFrees", inPlace := ["slices.overlaps[paddock/api.Block]", "slices.overlaps[paddock/api.List]"], unfollowed := true, recurses := true, apart := false }
def PagesFreesSaid : Prop := pagesFreesRow.holds Try.pinned (OpenSpec.ofChange pagesFreesSpec)

/-- ITS FALSE NEIGHBOUR: 'it returns false'. Refute it at one input. -/
def pagesFreesWrong : ChangeSpec := { name := "pagesFrees", fn := fun _ => fun
  | [d1, d2, d3] => { results := [.lit (.bool false)], args := [d1, d2, d3] }
  | _ => none }
def PagesFreesWrongFalsely : Prop := pagesFreesRow.holds Try.pinned (OpenSpec.ofChange pagesFreesWrong)

/-- 'paddocklaw.SlabCreates': WHATEVER THE INPUT: true; the input reads as it did. -/
def slabCreatesSpec : ChangeSpec := { name := "slabCreates", fn := fun _ => fun
  | [d1, d2, d3, d4] => { results := [.lit (.bool true)], args := [d1, d2, d3, d4] }
  | _ => none }
def slabCreatesRow : OpenClaim := { program := "ytfdmgflboibdoaa", sum := "8b6aea0f1a0790bb5d70aa31b3796301f017c52652f8063ec34b1605d37bda5e", func := "paddock/paddocklaw.SlabCreates", spec := "slabCreates", inPlace := ["slices.overlaps[string]"], unfollowed := true, recurses := true, apart := false }
def SlabCreatesSaid : Prop := slabCreatesRow.holds Try.pinned (OpenSpec.ofChange slabCreatesSpec)

/-- ITS FALSE NEIGHBOUR: 'it returns false'. Refute it at one input. -/
def slabCreatesWrong : ChangeSpec := { name := "slabCreates", fn := fun _ => fun
  | [d1, d2, d3, d4] => { results := [.lit (.bool false)], args := [d1, d2, d3, d4] }
  | _ => none }
def SlabCreatesWrongFalsely : Prop := slabCreatesRow.holds Try.pinned (OpenSpec.ofChange slabCreatesWrong)

/- THE SECOND FORM. 'bulk': how many values and letters a reading holds, each counted each time it is reached (what is shared counts as often as it is met; a slice's spare places count too). A statement '..UptoSaid' is the law's where the arguments, and the package variables that the reading takes, are together of bulk at most 1048576: NARROWER than '..Said'. Prove '..Said' where nothing that the law and all that it calls make is longer than what came in: it says more and counts as full. Else prove '..UptoSaid'. A law counts once. -/
mutual
def uptoBulk {H : Type} : DataW H → Nat
  | .lit (.string bytes) => bytes.length + 1
  | .lit _ => 1
  | .nil => 1
  | .ptr d => uptoBulk d + 1
  | .slice elems spare => uptoBulkAll elems + uptoBulkAll spare + 1
  | .agg parts => uptoBulkAll parts + 1
  | .iface _ d => uptoBulk d + 1
  | .map entries => uptoBulkEntries entries + 1
  | .held _ => 1
def uptoBulkAll {H : Type} : List (DataW H) → Nat
  | [] => 0
  | d :: r => uptoBulk d + uptoBulkAll r
def uptoBulkEntries {H : Type} : List (Lit × DataW H) → Nat
  | [] => 0
  | x :: r => uptoBulkEntry x + uptoBulkEntries r
def uptoBulkEntry {H : Type} : Lit × DataW H → Nat
  | (.string bytes, d) => bytes.length + uptoBulk d + 1
  | (_, d) => uptoBulk d + 1
 end
def uptoSmall : (H : Type) → List (DataW H) → Bool := fun _ ds => decide (uptoBulkAll ds ≤ 1048576)
def OpenSpec.upto (s : _root_.Go.ChangeSpec) : _root_.Go.OpenSpec := { _root_.Go.OpenSpec.ofChange s with cond := some uptoSmall }

/-- 'paddocklaw.PagesCopies', WHERE WHAT IT READS IS OF BULK AT MOST 1048576: true; the input reads as it did. -/
def pagesCopiesUptoRow : OpenClaim := { program := "ytfdmgflboibdoaa", sum := "8b6aea0f1a0790bb5d70aa31b3796301f017c52652f8063ec34b1605d37bda5e", func := "paddock/paddocklaw.PagesCopies", spec := "pagesCopies", apart := false, narrowed := true }
def PagesCopiesUptoSaid : Prop := pagesCopiesUptoRow.holds Try.pinned (OpenSpec.upto pagesCopiesSpec)

/-- 'paddocklaw.SlabCopies', WHERE WHAT IT READS IS OF BULK AT MOST 1048576: true; the input reads as it did. -/
def slabCopiesUptoRow : OpenClaim := { program := "ytfdmgflboibdoaa", sum := "8b6aea0f1a0790bb5d70aa31b3796301f017c52652f8063ec34b1605d37bda5e", func := "paddock/paddocklaw.SlabCopies", spec := "slabCopies", apart := false, narrowed := true }
def SlabCopiesUptoSaid : Prop := slabCopiesUptoRow.holds Try.pinned (OpenSpec.upto slabCopiesSpec)

/-- 'paddocklaw.BuddyChecks', WHERE WHAT IT READS IS OF BULK AT MOST 1048576: true; the input reads as it did. -/
def buddyChecksUptoRow : OpenClaim := { program := "ytfdmgflboibdoaa", sum := "8b6aea0f1a0790bb5d70aa31b3796301f017c52652f8063ec34b1605d37bda5e", func := "paddock/paddocklaw.BuddyChecks", spec := "buddyChecks", unfollowed := true, recurses := true, apart := false, narrowed := true }
def BuddyChecksUptoSaid : Prop := buddyChecksUptoRow.holds Try.pinned (OpenSpec.upto buddyChecksSpec)

/-- 'paddocklaw.BuddyTypes', WHERE WHAT IT READS IS OF BULK AT MOST 1048576: true; the input reads as it did. -/
def buddyTypesUptoRow : OpenClaim := { program := "ytfdmgflboibdoaa", sum := "8b6aea0f1a0790bb5d70aa31b3796301f017c52652f8063ec34b1605d37bda5e", func := "paddock/paddocklaw.BuddyTypes", spec := "buddyTypes", unfollowed := true, recurses := true, apart := false, narrowed := true }
def BuddyTypesUptoSaid : Prop := buddyTypesUptoRow.holds Try.pinned (OpenSpec.upto buddyTypesSpec)

/-- 'paddocklaw.BuddyPages', WHERE WHAT IT READS IS OF BULK AT MOST 1048576: true; the input reads as it did. -/
def buddyPagesUptoRow : OpenClaim := { program := "ytfdmgflboibdoaa", sum := "8b6aea0f1a0790bb5d70aa31b3796301f017c52652f8063ec34b1605d37bda5e", func := "paddock/paddocklaw.BuddyPages", spec := "buddyPages", unfollowed := true, recurses := true, apart := false, narrowed := true }
def BuddyPagesUptoSaid : Prop := buddyPagesUptoRow.holds Try.pinned (OpenSpec.upto buddyPagesSpec)

/-- 'paddocklaw.BootRanges', WHERE WHAT IT READS IS OF BULK AT MOST 1048576: true; the input reads as it did. -/
def bootRangesUptoRow : OpenClaim := { program := "ytfdmgflboibdoaa", sum := "8b6aea0f1a0790bb5d70aa31b3796301f017c52652f8063ec34b1605d37bda5e", func := "paddock/paddocklaw.BootRanges", spec := "bootRanges", unfollowed := true, recurses := true, apart := false, narrowed := true }
def BootRangesUptoSaid : Prop := bootRangesUptoRow.holds Try.pinned (OpenSpec.upto bootRangesSpec)

/-- 'paddocklaw.BootAdds', WHERE WHAT IT READS IS OF BULK AT MOST 1048576: true; the input reads as it did. -/
def bootAddsUptoRow : OpenClaim := { program := "ytfdmgflboibdoaa", sum := "8b6aea0f1a0790bb5d70aa31b3796301f017c52652f8063ec34b1605d37bda5e", func := "paddock/paddocklaw.BootAdds", spec := "bootAdds", unfollowed := true, recurses := true, apart := false, narrowed := true }
def BootAddsUptoSaid : Prop := bootAddsUptoRow.holds Try.pinned (OpenSpec.upto bootAddsSpec)

/-- 'paddocklaw.BootRemoves', WHERE WHAT IT READS IS OF BULK AT MOST 1048576: true; the input reads as it did. -/
def bootRemovesUptoRow : OpenClaim := { program := "ytfdmgflboibdoaa", sum := "8b6aea0f1a0790bb5d70aa31b3796301f017c52652f8063ec34b1605d37bda5e", func := "paddock/paddocklaw.BootRemoves", spec := "bootRemoves", unfollowed := true, recurses := true, apart := false, narrowed := true }
def BootRemovesUptoSaid : Prop := bootRemovesUptoRow.holds Try.pinned (OpenSpec.upto bootRemovesSpec)

/-- 'paddocklaw.BootReserves', WHERE WHAT IT READS IS OF BULK AT MOST 1048576: true; the input reads as it did. -/
def bootReservesUptoRow : OpenClaim := { program := "ytfdmgflboibdoaa", sum := "8b6aea0f1a0790bb5d70aa31b3796301f017c52652f8063ec34b1605d37bda5e", func := "paddock/paddocklaw.BootReserves", spec := "bootReserves", unfollowed := true, recurses := true, apart := false, narrowed := true }
def BootReservesUptoSaid : Prop := bootReservesUptoRow.holds Try.pinned (OpenSpec.upto bootReservesSpec)

/-- 'paddocklaw.BootFrees', WHERE WHAT IT READS IS OF BULK AT MOST 1048576: true; the input reads as it did. -/
def bootFreesUptoRow : OpenClaim := { program := "ytfdmgflboibdoaa", sum := "8b6aea0f1a0790bb5d70aa31b3796301f017c52652f8063ec34b1605d37bda5e", func := "paddock/paddocklaw.BootFrees", spec := "bootFrees", unfollowed := true, recurses := true, apart := false, narrowed := true }
def BootFreesUptoSaid : Prop := bootFreesUptoRow.holds Try.pinned (OpenSpec.upto bootFreesSpec)

/-- 'paddocklaw.PagesChecks', WHERE WHAT IT READS IS OF BULK AT MOST 1048576: true; the input reads as it did. -/
def pagesChecksUptoRow : OpenClaim := { program := "ytfdmgflboibdoaa", sum := "8b6aea0f1a0790bb5d70aa31b3796301f017c52652f8063ec34b1605d37bda5e", func := "paddock/paddocklaw.PagesChecks", spec := "pagesChecks", unfollowed := true, recurses := true, apart := false, narrowed := true }
def PagesChecksUptoSaid : Prop := pagesChecksUptoRow.holds Try.pinned (OpenSpec.upto pagesChecksSpec)

/-- 'paddocklaw.BootAllocs', WHERE WHAT IT READS IS OF BULK AT MOST 1048576: true; the input reads as it did. -/
def bootAllocsUptoRow : OpenClaim := { program := "ytfdmgflboibdoaa", sum := "8b6aea0f1a0790bb5d70aa31b3796301f017c52652f8063ec34b1605d37bda5e", func := "paddock/paddocklaw.BootAllocs", spec := "bootAllocs", unfollowed := true, recurses := true, apart := false, narrowed := true }
def BootAllocsUptoSaid : Prop := bootAllocsUptoRow.holds Try.pinned (OpenSpec.upto bootAllocsSpec)

/-- 'paddocklaw.BuddyBacks', WHERE WHAT IT READS IS OF BULK AT MOST 1048576: true; the input reads as it did. -/
def buddyBacksUptoRow : OpenClaim := { program := "ytfdmgflboibdoaa", sum := "8b6aea0f1a0790bb5d70aa31b3796301f017c52652f8063ec34b1605d37bda5e", func := "paddock/paddocklaw.BuddyBacks", spec := "buddyBacks", inPlace := ["slices.overlaps[paddock/api.Block]"], unfollowed := true, recurses := true, apart := false, narrowed := true }
def BuddyBacksUptoSaid : Prop := buddyBacksUptoRow.holds Try.pinned (OpenSpec.upto buddyBacksSpec)

/-- 'paddocklaw.SlabChecks', WHERE WHAT IT READS IS OF BULK AT MOST 1048576: true; the input reads as it did. -/
def slabChecksUptoRow : OpenClaim := { program := "ytfdmgflboibdoaa", sum := "8b6aea0f1a0790bb5d70aa31b3796301f017c52652f8063ec34b1605d37bda5e", func := "paddock/paddocklaw.SlabChecks", spec := "slabChecks", unfollowed := true, recurses := true, apart := false, narrowed := true }
def SlabChecksUptoSaid : Prop := slabChecksUptoRow.holds Try.pinned (OpenSpec.upto slabChecksSpec)

/-- 'paddocklaw.BuddyGives', WHERE WHAT IT READS IS OF BULK AT MOST 1048576: true; the input reads as it did. -/
def buddyGivesUptoRow : OpenClaim := { program := "ytfdmgflboibdoaa", sum := "8b6aea0f1a0790bb5d70aa31b3796301f017c52652f8063ec34b1605d37bda5e", func := "paddock/paddocklaw.BuddyGives", spec := "buddyGives", inPlace := ["slices.overlaps[paddock/api.Block]"], unfollowed := true, recurses := true, apart := false, narrowed := true }
def BuddyGivesUptoSaid : Prop := buddyGivesUptoRow.holds Try.pinned (OpenSpec.upto buddyGivesSpec)

/-- 'paddocklaw.SlabFinds', WHERE WHAT IT READS IS OF BULK AT MOST 1048576: true; the input reads as it did. -/
def slabFindsUptoRow : OpenClaim := { program := "ytfdmgflboibdoaa", sum := "8b6aea0f1a0790bb5d70aa31b3796301f017c52652f8063ec34b1605d37bda5e", func := "paddock/paddocklaw.SlabFinds", spec := "slabFinds", unfollowed := true, recurses := true, apart := false, narrowed := true }
def SlabFindsUptoSaid : Prop := slabFindsUptoRow.holds Try.pinned (OpenSpec.upto slabFindsSpec)

/-- 'paddocklaw.PagesNew', WHERE WHAT IT READS IS OF BULK AT MOST 1048576: true; the input reads as it did. -/
def pagesNewUptoRow : OpenClaim := { program := "ytfdmgflboibdoaa", sum := "8b6aea0f1a0790bb5d70aa31b3796301f017c52652f8063ec34b1605d37bda5e", func := "paddock/paddocklaw.PagesNew", spec := "pagesNew", inPlace := ["slices.overlaps[paddock/api.Block]"], unfollowed := true, recurses := true, apart := false, narrowed := true }
def PagesNewUptoSaid : Prop := pagesNewUptoRow.holds Try.pinned (OpenSpec.upto pagesNewSpec)

/-- 'paddocklaw.PagesDrains', WHERE WHAT IT READS IS OF BULK AT MOST 1048576: true; the input reads as it did. -/
def pagesDrainsUptoRow : OpenClaim := { program := "ytfdmgflboibdoaa", sum := "8b6aea0f1a0790bb5d70aa31b3796301f017c52652f8063ec34b1605d37bda5e", func := "paddock/paddocklaw.PagesDrains", spec := "pagesDrains", inPlace := ["slices.overlaps[paddock/api.Block]"], unfollowed := true, recurses := true, apart := false, narrowed := true }
def PagesDrainsUptoSaid : Prop := pagesDrainsUptoRow.holds Try.pinned (OpenSpec.upto pagesDrainsSpec)

/-- 'paddocklaw.PagesFrees', WHERE WHAT IT READS IS OF BULK AT MOST 1048576: true; the input reads as it did. -/
def pagesFreesUptoRow : OpenClaim := { program := "ytfdmgflboibdoaa", sum := "8b6aea0f1a0790bb5d70aa31b3796301f017c52652f8063ec34b1605d37bda5e", func := "paddock/paddocklaw.PagesFrees", spec := "pagesFrees", inPlace := ["slices.overlaps[paddock/api.Block]", "slices.overlaps[paddock/api.List]"], unfollowed := true, recurses := true, apart := false, narrowed := true }
def PagesFreesUptoSaid : Prop := pagesFreesUptoRow.holds Try.pinned (OpenSpec.upto pagesFreesSpec)

/-- 'paddocklaw.SlabCreates', WHERE WHAT IT READS IS OF BULK AT MOST 1048576: true; the input reads as it did. -/
def slabCreatesUptoRow : OpenClaim := { program := "ytfdmgflboibdoaa", sum := "8b6aea0f1a0790bb5d70aa31b3796301f017c52652f8063ec34b1605d37bda5e", func := "paddock/paddocklaw.SlabCreates", spec := "slabCreates", inPlace := ["slices.overlaps[string]"], unfollowed := true, recurses := true, apart := false, narrowed := true }
def SlabCreatesUptoSaid : Prop := slabCreatesUptoRow.holds Try.pinned (OpenSpec.upto slabCreatesSpec)

end Rows
end Go.Proofs.Ytfdmgflboibdoaa
