/-
  DERIVED. GIVEN WITH THE SEED: THE CARDS: each row of YtjimadiidbkohaaGreatDoorRows.lean that lists a variable, with what it lists TIED to the program's text (the seventh form; the later family's looks); each row that meets fmt, with fmt's text TOLD by the authors' own Lean function (tested against real Go, not proved from fmt's source: count such statements apart). THE CARD IS WHAT COUNTS. Prove the row's statement (the work); the ties are given (YtjimadiidbkohaaGreatDoorTie.lean); close each card by the builder's one call (the guide's Derived/Test/ToyasCard.lean, 'card_holds'). Laid BY PROGRAM, IN A SANDBOX (cutbox-door.mjs). By AI agents, Wed Nov 11 2026. No macro, syntax, notation, axiom, sorry.
-/
import Derived.Test.YtjimadiidbkohaaGreatDoorRows
import GoSem.ClaimSeven
namespace Go.Proofs.YtjimadiidbkohaaGreatDoor
namespace Rows

/-- THE TIED CARD OF 'paddocklaw.SlabAllocs'. -/
def slabAllocsCard : Claim7 := { stood := { row := slabAllocsRow, standIns := [], harness := (true, "d4a31ae4f05e72160410defe0529e9e118a270238f1da36be43e742e6f00e6dd"), looks := false }, kinds := [], alts := [], laidByText := true, laidKinds := [.data], laidTests := true, laidLooks := .later }
def SlabAllocsCardSaid : Prop := Claim7.holds Tryz.pinned (.plain (OpenSpec.ofChange slabAllocsSpec)) slabAllocsCard

/-- THE TIED CARD OF 'paddocklaw.SlabBulks'. -/
def slabBulksCard : Claim7 := { stood := { row := slabBulksRow, standIns := [], harness := (true, "d4a31ae4f05e72160410defe0529e9e118a270238f1da36be43e742e6f00e6dd"), looks := false }, kinds := [], alts := [], laidByText := true, laidKinds := [.data], laidTests := true, laidLooks := .later }
def SlabBulksCardSaid : Prop := Claim7.holds Tryz.pinned (.plain (OpenSpec.ofChange slabBulksSpec)) slabBulksCard

/-- THE SECOND FORM's CARD OF 'paddocklaw.SlabAllocs'. -/
def slabAllocsUptoCard : Claim7 := { stood := { row := slabAllocsUptoRow, standIns := [], harness := (true, "d4a31ae4f05e72160410defe0529e9e118a270238f1da36be43e742e6f00e6dd"), looks := false }, kinds := [], alts := [], laidByText := true, laidKinds := [.data], laidTests := true, laidLooks := .later }
def SlabAllocsUptoCardSaid : Prop := Claim7.holds Tryz.pinned (.plain (OpenSpec.upto slabAllocsSpec)) slabAllocsUptoCard

/-- THE SECOND FORM's CARD OF 'paddocklaw.SlabBulks'. -/
def slabBulksUptoCard : Claim7 := { stood := { row := slabBulksUptoRow, standIns := [], harness := (true, "d4a31ae4f05e72160410defe0529e9e118a270238f1da36be43e742e6f00e6dd"), looks := false }, kinds := [], alts := [], laidByText := true, laidKinds := [.data], laidTests := true, laidLooks := .later }
def SlabBulksUptoCardSaid : Prop := Claim7.holds Tryz.pinned (.plain (OpenSpec.upto slabBulksSpec)) slabBulksUptoCard
end Rows
end Go.Proofs.YtjimadiidbkohaaGreatDoor
