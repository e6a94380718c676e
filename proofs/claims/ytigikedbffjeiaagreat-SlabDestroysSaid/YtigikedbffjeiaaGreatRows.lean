/-
  No cell of these rows narrows 'for every input' (looked for: loops, veiled, ifaces, maps, wideKeys, modest, calm, conditions, laid).
  DERIVED. THE GIVEN ROWS OF THIS SEAT. 3 by the template 'for every input the law returns true; each argument reads behind the call as it read before'; 0 by the template 'total and deterministic' (their statements: YtigikedbffjeiaaGreatTotals.lean).
  GIVEN WITH THE SEED: the statements are not yours to turn. If you find one false, say at which input.
  Laid BY PROGRAM, IN A SANDBOX (cutbox-rows.mjs): the forced cells as the released guide's own fill.sh prints them over the translation 8e4aa77279db4ce8… (all of the seat's roots in one cut). By AI agents, Wed Nov 11 2026. No macro, syntax, notation, axiom, sorry.
-/
import Derived.Test.YtigikedbffjeiaaGreatChecked
import GoSem.Claim
import GoSem.ClaimJoined
import GoSem.ClaimMapViews
import Derived.JoinedTies
import Derived.KernelRfl
namespace Go.Proofs.YtigikedbffjeiaaGreat
/- THE CELL 'sum', in the pinned program and in every row, IS THE sha256 OF THE DUMP (.gsa) THAT YtigikedbffjeiaaGreatProg.lean LOADS. Nothing in Lean hashes anything: it is a label: what it is worth is what the hold of that sum in a sandbox is worth. -/
noncomputable def Tryz.pinned : Pinned := { name := "ytigikedbffjeiaagreat", sum := "8e4aa77279db4ce802d01cdb269986bf2619d3df57a9f2eee5b404a1925d75c6", checked := Tryz.checked }
namespace Rows
def none {H : Type} : Left H := { results := [], args := [] }

/-- 'paddocklaw.SlabShrinks': WHATEVER THE INPUT: true; the input reads as it did. -/
def slabShrinksSpec : ChangeSpec := { name := "slabShrinks", fn := fun _ => fun
  | [d1, d2] => { results := [.lit (.bool true)], args := [d1, d2] }
  | _ => none }
def slabShrinksRow : OpenClaim := { program := "ytigikedbffjeiaagreat", sum := "8e4aa77279db4ce802d01cdb269986bf2619d3df57a9f2eee5b404a1925d75c6", func := "paddock/paddocklaw.SlabShrinks", spec := "slabShrinks", inPlace := ["slices.overlaps[paddock/api.Block]", "slices.overlaps[paddock/api.List]"], unfollowed := true, recurses := true, apart := false }
def SlabShrinksSaid : Prop := slabShrinksRow.holds Tryz.pinned (OpenSpec.ofChange slabShrinksSpec)

/-- ITS FALSE NEIGHBOUR: 'it returns false'. Refute it at one input. -/
def slabShrinksWrong : ChangeSpec := { name := "slabShrinks", fn := fun _ => fun
  | [d1, d2] => { results := [.lit (.bool false)], args := [d1, d2] }
  | _ => none }
def SlabShrinksWrongFalsely : Prop := slabShrinksRow.holds Tryz.pinned (OpenSpec.ofChange slabShrinksWrong)

/-- 'paddocklaw.SlabFrees': WHATEVER THE INPUT: true; the input reads as it did. -/
def slabFreesSpec : ChangeSpec := { name := "slabFrees", fn := fun _ => fun
  | [d1, d2, d3, d4] => { results := [.lit (.bool true)], args := [d1, d2, d3, d4] }
  | _ => none }
def slabFreesRow : OpenClaim := { program := "ytigikedbffjeiaagreat", sum := "8e4aa77279db4ce802d01cdb269986bf2619d3df57a9f2eee5b404a1925d75c6", func := "paddock/paddocklaw.SlabFrees", spec := "slabFrees", inPlace := ["slices.overlaps[paddock/api.Block]", "slices.overlaps[paddock/api.List]"], unfollowed := true, recurses := true, apart := false }
def SlabFreesSaid : Prop := slabFreesRow.holds Tryz.pinned (OpenSpec.ofChange slabFreesSpec)

/-- ITS FALSE NEIGHBOUR: 'it returns false'. Refute it at one input. -/
def slabFreesWrong : ChangeSpec := { name := "slabFrees", fn := fun _ => fun
  | [d1, d2, d3, d4] => { results := [.lit (.bool false)], args := [d1, d2, d3, d4] }
  | _ => none }
def SlabFreesWrongFalsely : Prop := slabFreesRow.holds Tryz.pinned (OpenSpec.ofChange slabFreesWrong)

/-- 'paddocklaw.SlabDestroys': WHATEVER THE INPUT: true; the input reads as it did. -/
def slabDestroysSpec : ChangeSpec := { name := "slabDestroys", fn := fun _ => fun
  | [d1, d2] => { results := [.lit (.bool true)], args := [d1, d2] }
  | _ => none }
def slabDestroysRow : OpenClaim := { program := "ytigikedbffjeiaagreat", sum := "8e4aa77279db4ce802d01cdb269986bf2619d3df57a9f2eee5b404a1925d75c6", func := "paddock/paddocklaw.SlabDestroys", spec := "slabDestroys", inPlace := ["slices.overlaps[paddock/api.Block]", "slices.overlaps[paddock/api.List]"], unfollowed := true, recurses := true, apart := false }
def SlabDestroysSaid : Prop := slabDestroysRow.holds Tryz.pinned (OpenSpec.ofChange slabDestroysSpec)

/-- ITS FALSE NEIGHBOUR: 'it returns false'. Refute it at one input. -/
def slabDestroysWrong : ChangeSpec := { name := "slabDestroys", fn := fun _ => fun
  | [d1, d2] => { results := [.lit (.bool false)], args := [d1, d2] }
  | _ => none }
def SlabDestroysWrongFalsely : Prop := slabDestroysRow.holds Tryz.pinned (OpenSpec.ofChange slabDestroysWrong)

/- THE SECOND FORM. 'bulk': how many values and letters a reading holds, each counted each time it is reached (what is shared counts as often as it is met; a slice's spare places count too). A statement '..UptoSaid' is the law's where the arguments, and the package variables that the reading takes, are together of bulk at most 1048576: NARROWER than '..Said'. Prove '..Said' where nothing that the law and all that it calls make is longer than what came in: it says more and counts as full. Else prove '..UptoSaid'. A law counts once. -/
mutual
def uptoBulk {H : Type} : DataW H → Nat
  | .lit (.string bytes) => bytes.length + 1
  | .lit _ => 1
  | .nil => 1
  | .ptr d => uptoBulk d + 1
  | .slice elems spare => uptoBulkAll elems + uptoBulkAll spare + 1
  | .agg parts => uptoBulkAll parts + 1
  | .iface _ d => uptoBulk d + 1
  | .map entries => uptoBulkEntries entries + 1
  | .held _ => 1
def uptoBulkAll {H : Type} : List (DataW H) → Nat
  | [] => 0
  | d :: r => uptoBulk d + uptoBulkAll r
def uptoBulkEntries {H : Type} : List (Lit × DataW H) → Nat
  | [] => 0
  | x :: r => uptoBulkEntry x + uptoBulkEntries r
def uptoBulkEntry {H : Type} : Lit × DataW H → Nat
  | (.string bytes, d) => bytes.length + uptoBulk d + 1
  | (_, d) => uptoBulk d + 1
 end
def uptoSmall : (H : Type) → List (DataW H) → Bool := fun _ ds => decide (uptoBulkAll ds ≤ 1048576)
def OpenSpec.upto (s : _root_.Go.ChangeSpec) : _root_.Go.OpenSpec := { _root_.Go.OpenSpec.ofChange s with cond := some uptoSmall }

/-- 'paddocklaw.SlabShrinks', WHERE WHAT IT READS IS OF BULK AT MOST 1048576: true; the input reads as it did. -/
def slabShrinksUptoRow : OpenClaim := { program := "ytigikedbffjeiaagreat", sum := "8e4aa77279db4ce802d01cdb269986bf2619d3df57a9f2eee5b404a1925d75c6", func := "paddock/paddocklaw.SlabShrinks", spec := "slabShrinks", inPlace := ["slices.overlaps[paddock/api.Block]", "slices.overlaps[paddock/api.List]"], unfollowed := true, recurses := true, apart := false, narrowed := true }
def SlabShrinksUptoSaid : Prop := slabShrinksUptoRow.holds Tryz.pinned (OpenSpec.upto slabShrinksSpec)

/-- 'paddocklaw.SlabFrees', WHERE WHAT IT READS IS OF BULK AT MOST 1048576: true; the input reads as it did. -/
def slabFreesUptoRow : OpenClaim := { program := "ytigikedbffjeiaagreat", sum := "8e4aa77279db4ce802d01cdb269986bf2619d3df57a9f2eee5b404a1925d75c6", func := "paddock/paddocklaw.SlabFrees", spec := "slabFrees", inPlace := ["slices.overlaps[paddock/api.Block]", "slices.overlaps[paddock/api.List]"], unfollowed := true, recurses := true, apart := false, narrowed := true }
def SlabFreesUptoSaid : Prop := slabFreesUptoRow.holds Tryz.pinned (OpenSpec.upto slabFreesSpec)

/-- 'paddocklaw.SlabDestroys', WHERE WHAT IT READS IS OF BULK AT MOST 1048576: true; the input reads as it did. -/
def slabDestroysUptoRow : OpenClaim := { program := "ytigikedbffjeiaagreat", sum := "8e4aa77279db4ce802d01cdb269986bf2619d3df57a9f2eee5b404a1925d75c6", func := "paddock/paddocklaw.SlabDestroys", spec := "slabDestroys", inPlace := ["slices.overlaps[paddock/api.Block]", "slices.overlaps[paddock/api.List]"], unfollowed := true, recurses := true, apart := false, narrowed := true }
def SlabDestroysUptoSaid : Prop := slabDestroysUptoRow.holds Tryz.pinned (OpenSpec.upto slabDestroysSpec)

end Rows
end Go.Proofs.YtigikedbffjeiaaGreat
