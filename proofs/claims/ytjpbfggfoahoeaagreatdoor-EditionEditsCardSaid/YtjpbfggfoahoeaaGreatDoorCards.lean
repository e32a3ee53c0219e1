/-
  DERIVED. GIVEN WITH THE SEED: THE CARDS: each row of YtjpbfggfoahoeaaGreatDoorRows.lean that lists a variable, with what it lists TIED to the program's text (the seventh form; the later family's looks); each row that meets fmt, with fmt's text TOLD by the authors' own Lean function (tested against real Go, not proved from fmt's source: count such statements apart). THE CARD IS WHAT COUNTS. Prove the row's statement (the work); the ties are given (YtjpbfggfoahoeaaGreatDoorTie.lean); close each card by the builder's one call (the guide's Derived/Test/ToyasCard.lean, 'card_holds'). Laid BY PROGRAM, IN A SANDBOX (cutbox-door.mjs). By AI agents, Wed Nov 11 2026. No macro, syntax, notation, axiom, sorry.
-/
import Derived.Test.YtjpbfggfoahoeaaGreatDoorRows
import GoSem.ClaimSeven
namespace Go.Proofs.YtjpbfggfoahoeaaGreatDoor
namespace Rows

/-- THE TIED CARD OF 'schismalaw26.EditionFirst'. -/
def editionFirstCard : Claim7 := { stood := { row := editionFirstRow, standIns := [], harness := (true, "0f903f2e1e8933c91a7c3b48996f32d1f5d17d21e508f4c4aac89e4ebf937deb"), looks := true }, kinds := [], alts := [], laidByText := true, laidKinds := [.data, .data, .data, .pinned], laidTests := true, laidLooks := .later }
def EditionFirstCardSaid : Prop := Claim7.holds Tryz.pinned (.plain (OpenSpec.ofChange editionFirstSpec)) editionFirstCard

/-- THE TIED CARD OF 'schismalaw26.EditionEdits'. -/
def editionEditsCard : Claim7 := { stood := { row := editionEditsRow, standIns := [], harness := (true, "0f903f2e1e8933c91a7c3b48996f32d1f5d17d21e508f4c4aac89e4ebf937deb"), looks := true }, kinds := [], alts := [], laidByText := true, laidKinds := [.data, .data, .data, .pinned], laidTests := true, laidLooks := .later }
def EditionEditsCardSaid : Prop := Claim7.holds Tryz.pinned (.plain (OpenSpec.ofChange editionEditsSpec)) editionEditsCard

/-- THE TIED CARD OF 'schismalaw26.EditionLate'. -/
def editionLateCard : Claim7 := { stood := { row := editionLateRow, standIns := [], harness := (true, "0f903f2e1e8933c91a7c3b48996f32d1f5d17d21e508f4c4aac89e4ebf937deb"), looks := true }, kinds := [], alts := [], laidByText := true, laidKinds := [.data, .data, .data, .pinned], laidTests := true, laidLooks := .later }
def EditionLateCardSaid : Prop := Claim7.holds Tryz.pinned (.plain (OpenSpec.ofChange editionLateSpec)) editionLateCard

/-- THE SECOND FORM's CARD OF 'schismalaw26.EditionFirst'. -/
def editionFirstUptoCard : Claim7 := { stood := { row := editionFirstUptoRow, standIns := [], harness := (true, "0f903f2e1e8933c91a7c3b48996f32d1f5d17d21e508f4c4aac89e4ebf937deb"), looks := true }, kinds := [], alts := [], laidByText := true, laidKinds := [.data, .data, .data, .pinned], laidTests := true, laidLooks := .later }
def EditionFirstUptoCardSaid : Prop := Claim7.holds Tryz.pinned (.plain (OpenSpec.upto editionFirstSpec)) editionFirstUptoCard

/-- THE SECOND FORM's CARD OF 'schismalaw26.EditionEdits'. -/
def editionEditsUptoCard : Claim7 := { stood := { row := editionEditsUptoRow, standIns := [], harness := (true, "0f903f2e1e8933c91a7c3b48996f32d1f5d17d21e508f4c4aac89e4ebf937deb"), looks := true }, kinds := [], alts := [], laidByText := true, laidKinds := [.data, .data, .data, .pinned], laidTests := true, laidLooks := .later }
def EditionEditsUptoCardSaid : Prop := Claim7.holds Tryz.pinned (.plain (OpenSpec.upto editionEditsSpec)) editionEditsUptoCard

/-- THE SECOND FORM's CARD OF 'schismalaw26.EditionLate'. -/
def editionLateUptoCard : Claim7 := { stood := { row := editionLateUptoRow, standIns := [], harness := (true, "0f903f2e1e8933c91a7c3b48996f32d1f5d17d21e508f4c4aac89e4ebf937deb"), looks := true }, kinds := [], alts := [], laidByText := true, laidKinds := [.data, .data, .data, .pinned], laidTests := true, laidLooks := .later }
def EditionLateUptoCardSaid : Prop := Claim7.holds Tryz.pinned (.plain (OpenSpec.upto editionLateSpec)) editionLateUptoCard
end Rows
end Go.Proofs.YtjpbfggfoahoeaaGreatDoor
