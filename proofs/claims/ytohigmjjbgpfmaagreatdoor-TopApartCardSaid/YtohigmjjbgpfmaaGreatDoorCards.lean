/-
  DERIVED. GIVEN WITH THE SEED: THE CARDS: each row of YtohigmjjbgpfmaaGreatDoorRows.lean that lists a variable, with what it lists TIED to the program's text (the seventh form; the later family's looks); each row that meets fmt, with fmt's text TOLD by the authors' own Lean function (tested against real Go, not proved from fmt's source: count such statements apart). THE CARD IS WHAT COUNTS. Prove the row's statement (the work); the ties are given (YtohigmjjbgpfmaaGreatDoorTie.lean); close each card by the builder's one call (the guide's Derived/Test/ToyasCard.lean, 'card_holds'). Laid BY PROGRAM, IN A SANDBOX (cutbox-door.mjs). By AI agents, Wed Nov 11 2026. No macro, syntax, notation, axiom, sorry.
-/
import Derived.Test.YtohigmjjbgpfmaaGreatDoorRows
import GoSem.ClaimSeven
namespace Go.Proofs.YtohigmjjbgpfmaaGreatDoor
namespace Rows

/-- THE TIED CARD OF 'paddocktop.TopWords'. -/
def topWordsCard : Claim7 := { stood := { row := topWordsRow, standIns := [], harness := (true, "65eeced44938fc4a50d37fbbf9a97957ef39f735ec82fa335bb36a9d320a180c"), looks := false }, kinds := [], alts := [], laidByText := true, laidKinds := [.data, .data, .data, .data, .widerDeep], laidTests := true, laidLooks := .later }
def TopWordsCardSaid : Prop := Claim7.holds Tryz.pinned (.plain (OpenSpec.ofChange topWordsSpec)) topWordsCard

/-- THE TIED CARD OF 'paddocktop.TopApart'. -/
def topApartCard : Claim7 := { stood := { row := topApartRow, standIns := [], harness := (true, "65eeced44938fc4a50d37fbbf9a97957ef39f735ec82fa335bb36a9d320a180c"), looks := false }, kinds := [], alts := [], laidByText := true, laidKinds := [.data, .data, .data, .data, .widerDeep], laidTests := true, laidLooks := .later }
def TopApartCardSaid : Prop := Claim7.holds Tryz.pinned (.plain (OpenSpec.ofChange topApartSpec)) topApartCard

/-- THE SECOND FORM's CARD OF 'paddocktop.TopWords'. -/
def topWordsUptoCard : Claim7 := { stood := { row := topWordsUptoRow, standIns := [], harness := (true, "65eeced44938fc4a50d37fbbf9a97957ef39f735ec82fa335bb36a9d320a180c"), looks := false }, kinds := [], alts := [], laidByText := true, laidKinds := [.data, .data, .data, .data, .widerDeep], laidTests := true, laidLooks := .later }
def TopWordsUptoCardSaid : Prop := Claim7.holds Tryz.pinned (.plain (OpenSpec.upto topWordsSpec)) topWordsUptoCard

/-- THE SECOND FORM's CARD OF 'paddocktop.TopApart'. -/
def topApartUptoCard : Claim7 := { stood := { row := topApartUptoRow, standIns := [], harness := (true, "65eeced44938fc4a50d37fbbf9a97957ef39f735ec82fa335bb36a9d320a180c"), looks := false }, kinds := [], alts := [], laidByText := true, laidKinds := [.data, .data, .data, .data, .widerDeep], laidTests := true, laidLooks := .later }
def TopApartUptoCardSaid : Prop := Claim7.holds Tryz.pinned (.plain (OpenSpec.upto topApartSpec)) topApartUptoCard
end Rows
end Go.Proofs.YtohigmjjbgpfmaaGreatDoor
