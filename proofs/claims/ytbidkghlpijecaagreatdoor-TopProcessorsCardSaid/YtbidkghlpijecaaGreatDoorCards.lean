/-
  DERIVED. GIVEN WITH THE SEED: THE CARDS: each row of YtbidkghlpijecaaGreatDoorRows.lean that lists a variable, with what it lists TIED to the program's text (the seventh form; the later family's looks); each row that meets fmt, with fmt's text TOLD by the authors' own Lean function (tested against real Go, not proved from fmt's source: count such statements apart). THE CARD IS WHAT COUNTS. Prove the row's statement (the work); the ties are given (YtbidkghlpijecaaGreatDoorTie.lean); close each card by the builder's one call (the guide's Derived/Test/ToyasCard.lean, 'card_holds'). Laid BY PROGRAM, IN A SANDBOX (cutbox-door.mjs). By AI agents, Wed Nov 11 2026. No macro, syntax, notation, axiom, sorry.
-/
import Derived.Test.YtbidkghlpijecaaGreatDoorRows
import GoSem.ClaimSeven
namespace Go.Proofs.YtbidkghlpijecaaGreatDoor
namespace Rows

/-- THE TIED CARD OF 'paddocktop.TopWords'. -/
def topWordsCard : Claim7 := { stood := { row := topWordsRow, standIns := [], harness := (true, "05ebf2ea9526a9a9d2ec54fc9a388e4a642ed1478c9dc3100183cde6289a3d01"), looks := false }, kinds := [], alts := [], laidByText := true, laidKinds := [.data, .data, .data, .data, .widerDeep], laidTests := true, laidLooks := .later }
def TopWordsCardSaid : Prop := Claim7.holds Tryz.pinned (.plain (OpenSpec.ofChange topWordsSpec)) topWordsCard

/-- THE TIED CARD OF 'paddocktop.TopApart'. -/
def topApartCard : Claim7 := { stood := { row := topApartRow, standIns := [], harness := (true, "05ebf2ea9526a9a9d2ec54fc9a388e4a642ed1478c9dc3100183cde6289a3d01"), looks := false }, kinds := [], alts := [], laidByText := true, laidKinds := [.data, .data, .data, .data, .widerDeep], laidTests := true, laidLooks := .later }
def TopApartCardSaid : Prop := Claim7.holds Tryz.pinned (.plain (OpenSpec.ofChange topApartSpec)) topApartCard

/-- THE TIED CARD OF 'paddocktop.TopEnds'. -/
def topEndsCard : Claim7 := { stood := { row := topEndsRow, standIns := [], harness := (true, "05ebf2ea9526a9a9d2ec54fc9a388e4a642ed1478c9dc3100183cde6289a3d01"), looks := false }, kinds := [], alts := [], laidByText := true, laidKinds := [.data, .data, .data, .data, .widerDeep], laidTests := true, laidLooks := .later }
def TopEndsCardSaid : Prop := Claim7.holds Tryz.pinned (.plain (OpenSpec.ofChange topEndsSpec)) topEndsCard

/-- THE TIED CARD OF 'paddocklaw.KmemFrees'. -/
def kmemFreesCard : Claim7 := { stood := { row := kmemFreesRow, standIns := [], harness := (true, "05ebf2ea9526a9a9d2ec54fc9a388e4a642ed1478c9dc3100183cde6289a3d01"), looks := false }, kinds := [], alts := [], laidByText := true, laidKinds := [.data, .data, .data, .widerDeep], laidTests := true, laidLooks := .later }
def KmemFreesCardSaid : Prop := Claim7.holds Tryz.pinned (.plain (OpenSpec.ofChange kmemFreesSpec)) kmemFreesCard

/-- THE TIED CARD OF 'paddocklaw.KmemNew'. -/
def kmemNewCard : Claim7 := { stood := { row := kmemNewRow, standIns := [], harness := (true, "05ebf2ea9526a9a9d2ec54fc9a388e4a642ed1478c9dc3100183cde6289a3d01"), looks := false }, kinds := [], alts := [], laidByText := true, laidKinds := [.data, .data, .data, .widerDeep], laidTests := true, laidLooks := .later }
def KmemNewCardSaid : Prop := Claim7.holds Tryz.pinned (.plain (OpenSpec.ofChange kmemNewSpec)) kmemNewCard

/-- THE TIED CARD OF 'paddocklaw.KmemAllocs'. -/
def kmemAllocsCard : Claim7 := { stood := { row := kmemAllocsRow, standIns := [], harness := (true, "05ebf2ea9526a9a9d2ec54fc9a388e4a642ed1478c9dc3100183cde6289a3d01"), looks := false }, kinds := [], alts := [], laidByText := true, laidKinds := [.data, .data, .data, .data, .widerDeep], laidTests := true, laidLooks := .later }
def KmemAllocsCardSaid : Prop := Claim7.holds Tryz.pinned (.plain (OpenSpec.ofChange kmemAllocsSpec)) kmemAllocsCard

/-- THE TIED CARD OF 'paddocklaw.KmemResizes'. -/
def kmemResizesCard : Claim7 := { stood := { row := kmemResizesRow, standIns := [], harness := (true, "05ebf2ea9526a9a9d2ec54fc9a388e4a642ed1478c9dc3100183cde6289a3d01"), looks := false }, kinds := [], alts := [], laidByText := true, laidKinds := [.data, .data, .data, .data, .widerDeep], laidTests := true, laidLooks := .later }
def KmemResizesCardSaid : Prop := Claim7.holds Tryz.pinned (.plain (OpenSpec.ofChange kmemResizesSpec)) kmemResizesCard

/-- THE TIED CARD OF 'paddocklaw.KmemRuns'. -/
def kmemRunsCard : Claim7 := { stood := { row := kmemRunsRow, standIns := [], harness := (true, "05ebf2ea9526a9a9d2ec54fc9a388e4a642ed1478c9dc3100183cde6289a3d01"), looks := false }, kinds := [], alts := [], laidByText := true, laidKinds := [.data, .data, .data, .data, .widerDeep], laidTests := true, laidLooks := .later }
def KmemRunsCardSaid : Prop := Claim7.holds Tryz.pinned (.plain (OpenSpec.ofChange kmemRunsSpec)) kmemRunsCard

/-- THE TIED CARD OF 'paddocktop.TopRoom'. -/
def topRoomCard : Claim7 := { stood := { row := topRoomRow, standIns := [], harness := (true, "05ebf2ea9526a9a9d2ec54fc9a388e4a642ed1478c9dc3100183cde6289a3d01"), looks := false }, kinds := [], alts := [], laidByText := true, laidKinds := [.data, .data, .data, .data, .widerDeep], laidTests := true, laidLooks := .later }
def TopRoomCardSaid : Prop := Claim7.holds Tryz.pinned (.plain (OpenSpec.ofChange topRoomSpec)) topRoomCard

/-- THE TIED CARD OF 'paddocktop.TopProcessors'. -/
def topProcessorsCard : Claim7 := { stood := { row := topProcessorsRow, standIns := [], harness := (true, "05ebf2ea9526a9a9d2ec54fc9a388e4a642ed1478c9dc3100183cde6289a3d01"), looks := false }, kinds := [], alts := [], laidByText := true, laidKinds := [.data, .data, .data, .data, .widerDeep], laidTests := true, laidLooks := .later }
def TopProcessorsCardSaid : Prop := Claim7.holds Tryz.pinned (.plain (OpenSpec.ofChange topProcessorsSpec)) topProcessorsCard

/-- THE SECOND FORM's CARD OF 'paddocktop.TopWords'. -/
def topWordsUptoCard : Claim7 := { stood := { row := topWordsUptoRow, standIns := [], harness := (true, "05ebf2ea9526a9a9d2ec54fc9a388e4a642ed1478c9dc3100183cde6289a3d01"), looks := false }, kinds := [], alts := [], laidByText := true, laidKinds := [.data, .data, .data, .data, .widerDeep], laidTests := true, laidLooks := .later }
def TopWordsUptoCardSaid : Prop := Claim7.holds Tryz.pinned (.plain (OpenSpec.upto topWordsSpec)) topWordsUptoCard

/-- THE SECOND FORM's CARD OF 'paddocktop.TopApart'. -/
def topApartUptoCard : Claim7 := { stood := { row := topApartUptoRow, standIns := [], harness := (true, "05ebf2ea9526a9a9d2ec54fc9a388e4a642ed1478c9dc3100183cde6289a3d01"), looks := false }, kinds := [], alts := [], laidByText := true, laidKinds := [.data, .data, .data, .data, .widerDeep], laidTests := true, laidLooks := .later }
def TopApartUptoCardSaid : Prop := Claim7.holds Tryz.pinned (.plain (OpenSpec.upto topApartSpec)) topApartUptoCard

/-- THE SECOND FORM's CARD OF 'paddocktop.TopEnds'. -/
def topEndsUptoCard : Claim7 := { stood := { row := topEndsUptoRow, standIns := [], harness := (true, "05ebf2ea9526a9a9d2ec54fc9a388e4a642ed1478c9dc3100183cde6289a3d01"), looks := false }, kinds := [], alts := [], laidByText := true, laidKinds := [.data, .data, .data, .data, .widerDeep], laidTests := true, laidLooks := .later }
def TopEndsUptoCardSaid : Prop := Claim7.holds Tryz.pinned (.plain (OpenSpec.upto topEndsSpec)) topEndsUptoCard

/-- THE SECOND FORM's CARD OF 'paddocklaw.KmemFrees'. -/
def kmemFreesUptoCard : Claim7 := { stood := { row := kmemFreesUptoRow, standIns := [], harness := (true, "05ebf2ea9526a9a9d2ec54fc9a388e4a642ed1478c9dc3100183cde6289a3d01"), looks := false }, kinds := [], alts := [], laidByText := true, laidKinds := [.data, .data, .data, .widerDeep], laidTests := true, laidLooks := .later }
def KmemFreesUptoCardSaid : Prop := Claim7.holds Tryz.pinned (.plain (OpenSpec.upto kmemFreesSpec)) kmemFreesUptoCard

/-- THE SECOND FORM's CARD OF 'paddocklaw.KmemNew'. -/
def kmemNewUptoCard : Claim7 := { stood := { row := kmemNewUptoRow, standIns := [], harness := (true, "05ebf2ea9526a9a9d2ec54fc9a388e4a642ed1478c9dc3100183cde6289a3d01"), looks := false }, kinds := [], alts := [], laidByText := true, laidKinds := [.data, .data, .data, .widerDeep], laidTests := true, laidLooks := .later }
def KmemNewUptoCardSaid : Prop := Claim7.holds Tryz.pinned (.plain (OpenSpec.upto kmemNewSpec)) kmemNewUptoCard

/-- THE SECOND FORM's CARD OF 'paddocklaw.KmemAllocs'. -/
def kmemAllocsUptoCard : Claim7 := { stood := { row := kmemAllocsUptoRow, standIns := [], harness := (true, "05ebf2ea9526a9a9d2ec54fc9a388e4a642ed1478c9dc3100183cde6289a3d01"), looks := false }, kinds := [], alts := [], laidByText := true, laidKinds := [.data, .data, .data, .data, .widerDeep], laidTests := true, laidLooks := .later }
def KmemAllocsUptoCardSaid : Prop := Claim7.holds Tryz.pinned (.plain (OpenSpec.upto kmemAllocsSpec)) kmemAllocsUptoCard

/-- THE SECOND FORM's CARD OF 'paddocklaw.KmemResizes'. -/
def kmemResizesUptoCard : Claim7 := { stood := { row := kmemResizesUptoRow, standIns := [], harness := (true, "05ebf2ea9526a9a9d2ec54fc9a388e4a642ed1478c9dc3100183cde6289a3d01"), looks := false }, kinds := [], alts := [], laidByText := true, laidKinds := [.data, .data, .data, .data, .widerDeep], laidTests := true, laidLooks := .later }
def KmemResizesUptoCardSaid : Prop := Claim7.holds Tryz.pinned (.plain (OpenSpec.upto kmemResizesSpec)) kmemResizesUptoCard

/-- THE SECOND FORM's CARD OF 'paddocklaw.KmemRuns'. -/
def kmemRunsUptoCard : Claim7 := { stood := { row := kmemRunsUptoRow, standIns := [], harness := (true, "05ebf2ea9526a9a9d2ec54fc9a388e4a642ed1478c9dc3100183cde6289a3d01"), looks := false }, kinds := [], alts := [], laidByText := true, laidKinds := [.data, .data, .data, .data, .widerDeep], laidTests := true, laidLooks := .later }
def KmemRunsUptoCardSaid : Prop := Claim7.holds Tryz.pinned (.plain (OpenSpec.upto kmemRunsSpec)) kmemRunsUptoCard

/-- THE SECOND FORM's CARD OF 'paddocktop.TopRoom'. -/
def topRoomUptoCard : Claim7 := { stood := { row := topRoomUptoRow, standIns := [], harness := (true, "05ebf2ea9526a9a9d2ec54fc9a388e4a642ed1478c9dc3100183cde6289a3d01"), looks := false }, kinds := [], alts := [], laidByText := true, laidKinds := [.data, .data, .data, .data, .widerDeep], laidTests := true, laidLooks := .later }
def TopRoomUptoCardSaid : Prop := Claim7.holds Tryz.pinned (.plain (OpenSpec.upto topRoomSpec)) topRoomUptoCard

/-- THE SECOND FORM's CARD OF 'paddocktop.TopProcessors'. -/
def topProcessorsUptoCard : Claim7 := { stood := { row := topProcessorsUptoRow, standIns := [], harness := (true, "05ebf2ea9526a9a9d2ec54fc9a388e4a642ed1478c9dc3100183cde6289a3d01"), looks := false }, kinds := [], alts := [], laidByText := true, laidKinds := [.data, .data, .data, .data, .widerDeep], laidTests := true, laidLooks := .later }
def TopProcessorsUptoCardSaid : Prop := Claim7.holds Tryz.pinned (.plain (OpenSpec.upto topProcessorsSpec)) topProcessorsUptoCard
end Rows
end Go.Proofs.YtbidkghlpijecaaGreatDoor
