/-
  No cell of these rows narrows 'for every input' (looked for: loops, veiled, ifaces, maps, wideKeys, modest, calm, conditions, laid).
  DERIVED. THE GIVEN ROWS OF THIS SEAT. 12 by the template 'for every input the law returns true; each argument reads behind the call as it read before'; 0 by the template 'total and deterministic' (their statements: YtfdjfiioejegiaaTotals.lean).
  GIVEN WITH THE SEED: the statements are not yours to turn. If you find one false, say at which input.
  Laid BY PROGRAM, IN A SANDBOX (cutbox-rows.mjs): the forced cells as the released guide's own fill.sh prints them over the translation eed999af86ad2dcc… (all of the seat's roots in one cut). By AI agents, Wed Nov 11 2026. No macro, syntax, notation, axiom, sorry.
-/
import Derived.Test.YtfdjfiioejegiaaChecked
import GoSem.Claim
import GoSem.ClaimJoined
import GoSem.ClaimMapViews
import Derived.JoinedTies
import Derived.KernelRfl
namespace Go.Proofs.Ytfdjfiioejegiaa
/- THE CELL 'sum', in the pinned program and in every row, IS THE sha256 OF THE DUMP (.gsa) THAT YtfdjfiioejegiaaProg.lean LOADS. Nothing in Lean hashes anything: it is a label: what it is worth is what the hold of that sum in a sandbox is worth. -/
noncomputable def Try.pinned : Pinned := { name := "ytfdjfiioejegiaa", sum := "eed999af86ad2dcc9d6a96cae04634ee8c8e20e9b9e9cc93eced2bd4c417be5b", checked := Try.checked }
namespace Rows
def none {H : Type} : Left H := { results := [], args := [] }

/-- 'paddocklaw.Names': WHATEVER THE INPUT: true; the input reads as it did. -/
def namesSpec : ChangeSpec := { name := "names", fn := fun _ => fun
  | [] => { results := [.lit (.bool true)], args := [] }
  | _ => none }
def namesRow : OpenClaim := { program := "ytfdjfiioejegiaa", sum := "eed999af86ad2dcc9d6a96cae04634ee8c8e20e9b9e9cc93eced2bd4c417be5b", func := "paddock/paddocklaw.Names", spec := "names", apart := false }
def NamesSaid : Prop := namesRow.holds Try.pinned (OpenSpec.ofChange namesSpec)

/-- ITS FALSE NEIGHBOUR: 'it returns false'. Refute it at one input. -/
def namesWrong : ChangeSpec := { name := "names", fn := fun _ => fun
  | [] => { results := [.lit (.bool false)], args := [] }
  | _ => none }
def NamesWrongFalsely : Prop := namesRow.holds Try.pinned (OpenSpec.ofChange namesWrong)

/-- 'paddocklaw.RamNew': WHATEVER THE INPUT: true; the input reads as it did. -/
def ramNewSpec : ChangeSpec := { name := "ramNew", fn := fun _ => fun
  | [d] => { results := [.lit (.bool true)], args := [d] }
  | _ => none }
def ramNewRow : OpenClaim := { program := "ytfdjfiioejegiaa", sum := "eed999af86ad2dcc9d6a96cae04634ee8c8e20e9b9e9cc93eced2bd4c417be5b", func := "paddock/paddocklaw.RamNew", spec := "ramNew", apart := false }
def RamNewSaid : Prop := ramNewRow.holds Try.pinned (OpenSpec.ofChange ramNewSpec)

/-- ITS FALSE NEIGHBOUR: 'it returns false'. Refute it at one input. -/
def ramNewWrong : ChangeSpec := { name := "ramNew", fn := fun _ => fun
  | [d] => { results := [.lit (.bool false)], args := [d] }
  | _ => none }
def RamNewWrongFalsely : Prop := ramNewRow.holds Try.pinned (OpenSpec.ofChange ramNewWrong)

/-- 'paddocklaw.BootRegions': WHATEVER THE INPUT: true; the input reads as it did. -/
def bootRegionsSpec : ChangeSpec := { name := "bootRegions", fn := fun _ => fun
  | [d] => { results := [.lit (.bool true)], args := [d] }
  | _ => none }
def bootRegionsRow : OpenClaim := { program := "ytfdjfiioejegiaa", sum := "eed999af86ad2dcc9d6a96cae04634ee8c8e20e9b9e9cc93eced2bd4c417be5b", func := "paddock/paddocklaw.BootRegions", spec := "bootRegions", apart := false }
def BootRegionsSaid : Prop := bootRegionsRow.holds Try.pinned (OpenSpec.ofChange bootRegionsSpec)

/-- ITS FALSE NEIGHBOUR: 'it returns false'. Refute it at one input. -/
def bootRegionsWrong : ChangeSpec := { name := "bootRegions", fn := fun _ => fun
  | [d] => { results := [.lit (.bool false)], args := [d] }
  | _ => none }
def BootRegionsWrongFalsely : Prop := bootRegionsRow.holds Try.pinned (OpenSpec.ofChange bootRegionsWrong)

/-- 'paddocklaw.RamLoads': WHATEVER THE INPUT: true; the input reads as it did. -/
def ramLoadsSpec : ChangeSpec := { name := "ramLoads", fn := fun _ => fun
  | [d1, d2] => { results := [.lit (.bool true)], args := [d1, d2] }
  | _ => none }
def ramLoadsRow : OpenClaim := { program := "ytfdjfiioejegiaa", sum := "eed999af86ad2dcc9d6a96cae04634ee8c8e20e9b9e9cc93eced2bd4c417be5b", func := "paddock/paddocklaw.RamLoads", spec := "ramLoads", apart := false }
def RamLoadsSaid : Prop := ramLoadsRow.holds Try.pinned (OpenSpec.ofChange ramLoadsSpec)

/-- ITS FALSE NEIGHBOUR: 'it returns false'. Refute it at one input. -/
def ramLoadsWrong : ChangeSpec := { name := "ramLoads", fn := fun _ => fun
  | [d1, d2] => { results := [.lit (.bool false)], args := [d1, d2] }
  | _ => none }
def RamLoadsWrongFalsely : Prop := ramLoadsRow.holds Try.pinned (OpenSpec.ofChange ramLoadsWrong)

/-- 'paddocklaw.BuddyNew': WHATEVER THE INPUT: true; the input reads as it did. -/
def buddyNewSpec : ChangeSpec := { name := "buddyNew", fn := fun _ => fun
  | [d1, d2] => { results := [.lit (.bool true)], args := [d1, d2] }
  | _ => none }
def buddyNewRow : OpenClaim := { program := "ytfdjfiioejegiaa", sum := "eed999af86ad2dcc9d6a96cae04634ee8c8e20e9b9e9cc93eced2bd4c417be5b", func := "paddock/paddocklaw.BuddyNew", spec := "buddyNew", apart := false }
def BuddyNewSaid : Prop := buddyNewRow.holds Try.pinned (OpenSpec.ofChange buddyNewSpec)

/-- ITS FALSE NEIGHBOUR: 'it returns false'. Refute it at one input. -/
def buddyNewWrong : ChangeSpec := { name := "buddyNew", fn := fun _ => fun
  | [d1, d2] => { results := [.lit (.bool false)], args := [d1, d2] }
  | _ => none }
def BuddyNewWrongFalsely : Prop := buddyNewRow.holds Try.pinned (OpenSpec.ofChange buddyNewWrong)

/-- 'paddocklaw.SlabLayouts': WHATEVER THE INPUT: true; the input reads as it did. -/
def slabLayoutsSpec : ChangeSpec := { name := "slabLayouts", fn := fun _ => fun
  | [d] => { results := [.lit (.bool true)], args := [d] }
  | _ => none }
def slabLayoutsRow : OpenClaim := { program := "ytfdjfiioejegiaa", sum := "eed999af86ad2dcc9d6a96cae04634ee8c8e20e9b9e9cc93eced2bd4c417be5b", func := "paddock/paddocklaw.SlabLayouts", spec := "slabLayouts", apart := false }
def SlabLayoutsSaid : Prop := slabLayoutsRow.holds Try.pinned (OpenSpec.ofChange slabLayoutsSpec)

/-- ITS FALSE NEIGHBOUR: 'it returns false'. Refute it at one input. -/
def slabLayoutsWrong : ChangeSpec := { name := "slabLayouts", fn := fun _ => fun
  | [d] => { results := [.lit (.bool false)], args := [d] }
  | _ => none }
def SlabLayoutsWrongFalsely : Prop := slabLayoutsRow.holds Try.pinned (OpenSpec.ofChange slabLayoutsWrong)

/-- 'paddocklaw.BuddyCopies': WHATEVER THE INPUT: true; the input reads as it did. -/
def buddyCopiesSpec : ChangeSpec := { name := "buddyCopies", fn := fun _ => fun
  | [d] => { results := [.lit (.bool true)], args := [d] }
  | _ => none }
def buddyCopiesRow : OpenClaim := { program := "ytfdjfiioejegiaa", sum := "eed999af86ad2dcc9d6a96cae04634ee8c8e20e9b9e9cc93eced2bd4c417be5b", func := "paddock/paddocklaw.BuddyCopies", spec := "buddyCopies", apart := false }
def BuddyCopiesSaid : Prop := buddyCopiesRow.holds Try.pinned (OpenSpec.ofChange buddyCopiesSpec)

/-- ITS FALSE NEIGHBOUR: 'it returns false'. Refute it at one input. -/
def buddyCopiesWrong : ChangeSpec := { name := "buddyCopies", fn := fun _ => fun
  | [d] => { results := [.lit (.bool false)], args := [d] }
  | _ => none }
def BuddyCopiesWrongFalsely : Prop := buddyCopiesRow.holds Try.pinned (OpenSpec.ofChange buddyCopiesWrong)

/-- 'paddocklaw.RamStores': WHATEVER THE INPUT: true; the input reads as it did. -/
def ramStoresSpec : ChangeSpec := { name := "ramStores", fn := fun _ => fun
  | [d1, d2, d3] => { results := [.lit (.bool true)], args := [d1, d2, d3] }
  | _ => none }
def ramStoresRow : OpenClaim := { program := "ytfdjfiioejegiaa", sum := "eed999af86ad2dcc9d6a96cae04634ee8c8e20e9b9e9cc93eced2bd4c417be5b", func := "paddock/paddocklaw.RamStores", spec := "ramStores", apart := false }
def RamStoresSaid : Prop := ramStoresRow.holds Try.pinned (OpenSpec.ofChange ramStoresSpec)

/-- ITS FALSE NEIGHBOUR: 'it returns false'. Refute it at one input. -/
def ramStoresWrong : ChangeSpec := { name := "ramStores", fn := fun _ => fun
  | [d1, d2, d3] => { results := [.lit (.bool false)], args := [d1, d2, d3] }
  | _ => none }
def RamStoresWrongFalsely : Prop := ramStoresRow.holds Try.pinned (OpenSpec.ofChange ramStoresWrong)

/-- 'paddocklaw.RamMoves': WHATEVER THE INPUT: true; the input reads as it did. -/
def ramMovesSpec : ChangeSpec := { name := "ramMoves", fn := fun _ => fun
  | [d1, d2, d3, d4] => { results := [.lit (.bool true)], args := [d1, d2, d3, d4] }
  | _ => none }
def ramMovesRow : OpenClaim := { program := "ytfdjfiioejegiaa", sum := "eed999af86ad2dcc9d6a96cae04634ee8c8e20e9b9e9cc93eced2bd4c417be5b", func := "paddock/paddocklaw.RamMoves", spec := "ramMoves", apart := false }
def RamMovesSaid : Prop := ramMovesRow.holds Try.pinned (OpenSpec.ofChange ramMovesSpec)

/-- ITS FALSE NEIGHBOUR: 'it returns false'. Refute it at one input. -/
def ramMovesWrong : ChangeSpec := { name := "ramMoves", fn := fun _ => fun
  | [d1, d2, d3, d4] => { results := [.lit (.bool false)], args := [d1, d2, d3, d4] }
  | _ => none }
def RamMovesWrongFalsely : Prop := ramMovesRow.holds Try.pinned (OpenSpec.ofChange ramMovesWrong)

/-- 'paddocklaw.RamFollows': WHATEVER THE INPUT: true; the input reads as it did. -/
def ramFollowsSpec : ChangeSpec := { name := "ramFollows", fn := fun _ => fun
  | [d1, d2, d3] => { results := [.lit (.bool true)], args := [d1, d2, d3] }
  | _ => none }
def ramFollowsRow : OpenClaim := { program := "ytfdjfiioejegiaa", sum := "eed999af86ad2dcc9d6a96cae04634ee8c8e20e9b9e9cc93eced2bd4c417be5b", func := "paddock/paddocklaw.RamFollows", spec := "ramFollows", apart := false }
def RamFollowsSaid : Prop := ramFollowsRow.holds Try.pinned (OpenSpec.ofChange ramFollowsSpec)

/-- ITS FALSE NEIGHBOUR: 'it returns false'. Refute it at one input. -/
def ramFollowsWrong : ChangeSpec := { name := "ramFollows", fn := fun _ => fun
  | [d1, d2, d3] => { results := [.lit (.bool false)], args := [d1, d2, d3] }
  | _ => none }
def RamFollowsWrongFalsely : Prop := ramFollowsRow.holds Try.pinned (OpenSpec.ofChange ramFollowsWrong)

/-- 'paddocklaw.RamChains': WHATEVER THE INPUT: true; the input reads as it did. -/
def ramChainsSpec : ChangeSpec := { name := "ramChains", fn := fun _ => fun
  | [d1, d2, d3, d4] => { results := [.lit (.bool true)], args := [d1, d2, d3, d4] }
  | _ => none }
def ramChainsRow : OpenClaim := { program := "ytfdjfiioejegiaa", sum := "eed999af86ad2dcc9d6a96cae04634ee8c8e20e9b9e9cc93eced2bd4c417be5b", func := "paddock/paddocklaw.RamChains", spec := "ramChains", apart := false }
def RamChainsSaid : Prop := ramChainsRow.holds Try.pinned (OpenSpec.ofChange ramChainsSpec)

/-- ITS FALSE NEIGHBOUR: 'it returns false'. Refute it at one input. -/
def ramChainsWrong : ChangeSpec := { name := "ramChains", fn := fun _ => fun
  | [d1, d2, d3, d4] => { results := [.lit (.bool false)], args := [d1, d2, d3, d4] }
  | _ => none }
def RamChainsWrongFalsely : Prop := ramChainsRow.holds Try.pinned (OpenSpec.ofChange ramChainsWrong)

/-- 'paddocklaw.BootChecks': WHATEVER THE INPUT: true; the input reads as it did. -/
def bootChecksSpec : ChangeSpec := { name := "bootChecks", fn := fun _ => fun
  | [d] => { results := [.lit (.bool true)], args := [d] }
  | _ => none }
def bootChecksRow : OpenClaim := { program := "ytfdjfiioejegiaa", sum := "eed999af86ad2dcc9d6a96cae04634ee8c8e20e9b9e9cc93eced2bd4c417be5b", func := "paddock/paddocklaw.BootChecks", spec := "bootChecks", apart := false }
def BootChecksSaid : Prop := bootChecksRow.holds Try.pinned (OpenSpec.ofChange bootChecksSpec)

/-- ITS FALSE NEIGHBOUR: 'it returns false'. Refute it at one input. -/
def bootChecksWrong : ChangeSpec := { name := "bootChecks", fn := fun _ => fun
  | [d] => { results := [.lit (.bool false)], args := [d] }
  | _ => none }
def BootChecksWrongFalsely : Prop := bootChecksRow.holds Try.pinned (OpenSpec.ofChange bootChecksWrong)

/- THE SECOND FORM. 'bulk': how many values and letters a reading holds, each counted each time it is reached (what is shared counts as often as it is met; a slice's spare places count too). A statement '..UptoSaid' is the law's where the arguments, and the package variables that the reading takes, are together of bulk at most 1048576: NARROWER than '..Said'. Prove '..Said' where nothing that the law and all that it calls make is longer than what came in: it says more and counts as full. Else prove '..UptoSaid'. A law counts once. -/
mutual
def uptoBulk {H : Type} : DataW H → Nat
  | .lit (.string bytes) => bytes.length + 1
  | .lit _ => 1
  | .nil => 1
  | .ptr d => uptoBulk d + 1
  | .slice elems spare => uptoBulkAll elems + uptoBulkAll spare + 1
  | .agg parts => uptoBulkAll parts + 1
  | .iface _ d => uptoBulk d + 1
  | .map entries => uptoBulkEntries entries + 1
  | .held _ => 1
def uptoBulkAll {H : Type} : List (DataW H) → Nat
  | [] => 0
  | d :: r => uptoBulk d + uptoBulkAll r
def uptoBulkEntries {H : Type} : List (Lit × DataW H) → Nat
  | [] => 0
  | x :: r => uptoBulkEntry x + uptoBulkEntries r
def uptoBulkEntry {H : Type} : Lit × DataW H → Nat
  | (.string bytes, d) => bytes.length + uptoBulk d + 1
  | (_, d) => uptoBulk d + 1
 end
def uptoSmall : (H : Type) → List (DataW H) → Bool := fun _ ds => decide (uptoBulkAll ds ≤ 1048576)
def OpenSpec.upto (s : _root_.Go.ChangeSpec) : _root_.Go.OpenSpec := { _root_.Go.OpenSpec.ofChange s with cond := some uptoSmall }

/-- 'paddocklaw.Names', WHERE WHAT IT READS IS OF BULK AT MOST 1048576: true; the input reads as it did. -/
def namesUptoRow : OpenClaim := { program := "ytfdjfiioejegiaa", sum := "eed999af86ad2dcc9d6a96cae04634ee8c8e20e9b9e9cc93eced2bd4c417be5b", func := "paddock/paddocklaw.Names", spec := "names", apart := false, narrowed := true }
def NamesUptoSaid : Prop := namesUptoRow.holds Try.pinned (OpenSpec.upto namesSpec)

/-- 'paddocklaw.RamNew', WHERE WHAT IT READS IS OF BULK AT MOST 1048576: true; the input reads as it did. -/
def ramNewUptoRow : OpenClaim := { program := "ytfdjfiioejegiaa", sum := "eed999af86ad2dcc9d6a96cae04634ee8c8e20e9b9e9cc93eced2bd4c417be5b", func := "paddock/paddocklaw.RamNew", spec := "ramNew", apart := false, narrowed := true }
def RamNewUptoSaid : Prop := ramNewUptoRow.holds Try.pinned (OpenSpec.upto ramNewSpec)

/-- 'paddocklaw.BootRegions', WHERE WHAT IT READS IS OF BULK AT MOST 1048576: true; the input reads as it did. -/
def bootRegionsUptoRow : OpenClaim := { program := "ytfdjfiioejegiaa", sum := "eed999af86ad2dcc9d6a96cae04634ee8c8e20e9b9e9cc93eced2bd4c417be5b", func := "paddock/paddocklaw.BootRegions", spec := "bootRegions", apart := false, narrowed := true }
def BootRegionsUptoSaid : Prop := bootRegionsUptoRow.holds Try.pinned (OpenSpec.upto bootRegionsSpec)

/-- 'paddocklaw.RamLoads', WHERE WHAT IT READS IS OF BULK AT MOST 1048576: true; the input reads as it did. -/
def ramLoadsUptoRow : OpenClaim := { program := "ytfdjfiioejegiaa", sum := "eed999af86ad2dcc9d6a96cae04634ee8c8e20e9b9e9cc93eced2bd4c417be5b", func := "paddock/paddocklaw.RamLoads", spec := "ramLoads", apart := false, narrowed := true }
def RamLoadsUptoSaid : Prop := ramLoadsUptoRow.holds Try.pinned (OpenSpec.upto ramLoadsSpec)

/-- 'paddocklaw.BuddyNew', WHERE WHAT IT READS IS OF BULK AT MOST 1048576: true; the input reads as it did. -/
def buddyNewUptoRow : OpenClaim := { program := "ytfdjfiioejegiaa", sum := "eed999af86ad2dcc9d6a96cae04634ee8c8e20e9b9e9cc93eced2bd4c417be5b", func := "paddock/paddocklaw.BuddyNew", spec := "buddyNew", apart := false, narrowed := true }
def BuddyNewUptoSaid : Prop := buddyNewUptoRow.holds Try.pinned (OpenSpec.upto buddyNewSpec)

/-- 'paddocklaw.SlabLayouts', WHERE WHAT IT READS IS OF BULK AT MOST 1048576: true; the input reads as it did. -/
def slabLayoutsUptoRow : OpenClaim := { program := "ytfdjfiioejegiaa", sum := "eed999af86ad2dcc9d6a96cae04634ee8c8e20e9b9e9cc93eced2bd4c417be5b", func := "paddock/paddocklaw.SlabLayouts", spec := "slabLayouts", apart := false, narrowed := true }
def SlabLayoutsUptoSaid : Prop := slabLayoutsUptoRow.holds Try.pinned (OpenSpec.upto slabLayoutsSpec)

/-- 'paddocklaw.BuddyCopies', WHERE WHAT IT READS IS OF BULK AT MOST 1048576: true; the input reads as it did. -/
def buddyCopiesUptoRow : OpenClaim := { program := "ytfdjfiioejegiaa", sum := "eed999af86ad2dcc9d6a96cae04634ee8c8e20e9b9e9cc93eced2bd4c417be5b", func := "paddock/paddocklaw.BuddyCopies", spec := "buddyCopies", apart := false, narrowed := true }
def BuddyCopiesUptoSaid : Prop := buddyCopiesUptoRow.holds Try.pinned (OpenSpec.upto buddyCopiesSpec)

/-- 'paddocklaw.RamStores', WHERE WHAT IT READS IS OF BULK AT MOST 1048576: true; the input reads as it did. -/
def ramStoresUptoRow : OpenClaim := { program := "ytfdjfiioejegiaa", sum := "eed999af86ad2dcc9d6a96cae04634ee8c8e20e9b9e9cc93eced2bd4c417be5b", func := "paddock/paddocklaw.RamStores", spec := "ramStores", apart := false, narrowed := true }
def RamStoresUptoSaid : Prop := ramStoresUptoRow.holds Try.pinned (OpenSpec.upto ramStoresSpec)

/-- 'paddocklaw.RamMoves', WHERE WHAT IT READS IS OF BULK AT MOST 1048576: true; the input reads as it did. -/
def ramMovesUptoRow : OpenClaim := { program := "ytfdjfiioejegiaa", sum := "eed999af86ad2dcc9d6a96cae04634ee8c8e20e9b9e9cc93eced2bd4c417be5b", func := "paddock/paddocklaw.RamMoves", spec := "ramMoves", apart := false, narrowed := true }
def RamMovesUptoSaid : Prop := ramMovesUptoRow.holds Try.pinned (OpenSpec.upto ramMovesSpec)

/-- 'paddocklaw.RamFollows', WHERE WHAT IT READS IS OF BULK AT MOST 1048576: true; the input reads as it did. -/
def ramFollowsUptoRow : OpenClaim := { program := "ytfdjfiioejegiaa", sum := "eed999af86ad2dcc9d6a96cae04634ee8c8e20e9b9e9cc93eced2bd4c417be5b", func := "paddock/paddocklaw.RamFollows", spec := "ramFollows", apart := false, narrowed := true }
def RamFollowsUptoSaid : Prop := ramFollowsUptoRow.holds Try.pinned (OpenSpec.upto ramFollowsSpec)

/-- 'paddocklaw.RamChains', WHERE WHAT IT READS IS OF BULK AT MOST 1048576: true; the input reads as it did. -/
def ramChainsUptoRow : OpenClaim := { program := "ytfdjfiioejegiaa", sum := "eed999af86ad2dcc9d6a96cae04634ee8c8e20e9b9e9cc93eced2bd4c417be5b", func := "paddock/paddocklaw.RamChains", spec := "ramChains", apart := false, narrowed := true }
def RamChainsUptoSaid : Prop := ramChainsUptoRow.holds Try.pinned (OpenSpec.upto ramChainsSpec)

/-- 'paddocklaw.BootChecks', WHERE WHAT IT READS IS OF BULK AT MOST 1048576: true; the input reads as it did. -/
def bootChecksUptoRow : OpenClaim := { program := "ytfdjfiioejegiaa", sum := "eed999af86ad2dcc9d6a96cae04634ee8c8e20e9b9e9cc93eced2bd4c417be5b", func := "paddock/paddocklaw.BootChecks", spec := "bootChecks", apart := false, narrowed := true }
def BootChecksUptoSaid : Prop := bootChecksUptoRow.holds Try.pinned (OpenSpec.upto bootChecksSpec)

end Rows
end Go.Proofs.Ytfdjfiioejegiaa
