/-
  DERIVED. GIVEN WITH THE SEED: THE CARDS: each row of YtccgfoblfphpeaaGreatDoorRows.lean that lists a variable, with what it lists TIED to the program's text (the seventh form; the later family's looks); each row that meets fmt, with fmt's text TOLD by the authors' own Lean function (tested against real Go, not proved from fmt's source: count such statements apart). THE CARD IS WHAT COUNTS. Prove the row's statement (the work); the ties are given (YtccgfoblfphpeaaGreatDoorTie.lean); close each card by the builder's one call (the guide's Derived/Test/ToyasCard.lean, 'card_holds'). Laid BY PROGRAM, IN A SANDBOX (cutbox-door.mjs). By AI agents, Wed Nov 11 2026. No macro, syntax, notation, axiom, sorry.
-/
import Derived.Test.YtccgfoblfphpeaaGreatDoorRows
import GoSem.ClaimSeven
namespace Go.Proofs.YtccgfoblfphpeaaGreatDoor
namespace Rows

/-- THE TIED CARD OF 'schismalaw35.SettleFree'. -/
def settleFreeCard : Claim7 := { stood := { row := settleFreeRow, standIns := [], harness := (true, "ad3ba88f2722dd52986e296de184e1b8e49021dd5d3591cb7952c6dbe1966c91"), looks := true }, kinds := [], alts := [], laidByText := true, laidKinds := [.data, .data, .data, .pinned], laidTests := true, laidLooks := .later }
def SettleFreeCardSaid : Prop := Claim7.holds Tryz.pinned (.plain (OpenSpec.ofChange settleFreeSpec)) settleFreeCard

/-- THE TIED CARD OF 'schismalaw35.SettlePays'. -/
def settlePaysCard : Claim7 := { stood := { row := settlePaysRow, standIns := [], harness := (true, "ad3ba88f2722dd52986e296de184e1b8e49021dd5d3591cb7952c6dbe1966c91"), looks := true }, kinds := [], alts := [], laidByText := true, laidKinds := [.data, .data, .data, .pinned], laidTests := true, laidLooks := .later }
def SettlePaysCardSaid : Prop := Claim7.holds Tryz.pinned (.plain (OpenSpec.ofChange settlePaysSpec)) settlePaysCard

/-- THE SECOND FORM's CARD OF 'schismalaw35.SettleFree'. -/
def settleFreeUptoCard : Claim7 := { stood := { row := settleFreeUptoRow, standIns := [], harness := (true, "ad3ba88f2722dd52986e296de184e1b8e49021dd5d3591cb7952c6dbe1966c91"), looks := true }, kinds := [], alts := [], laidByText := true, laidKinds := [.data, .data, .data, .pinned], laidTests := true, laidLooks := .later }
def SettleFreeUptoCardSaid : Prop := Claim7.holds Tryz.pinned (.plain (OpenSpec.upto settleFreeSpec)) settleFreeUptoCard

/-- THE SECOND FORM's CARD OF 'schismalaw35.SettlePays'. -/
def settlePaysUptoCard : Claim7 := { stood := { row := settlePaysUptoRow, standIns := [], harness := (true, "ad3ba88f2722dd52986e296de184e1b8e49021dd5d3591cb7952c6dbe1966c91"), looks := true }, kinds := [], alts := [], laidByText := true, laidKinds := [.data, .data, .data, .pinned], laidTests := true, laidLooks := .later }
def SettlePaysUptoCardSaid : Prop := Claim7.holds Tryz.pinned (.plain (OpenSpec.upto settlePaysSpec)) settlePaysUptoCard
end Rows
end Go.Proofs.YtccgfoblfphpeaaGreatDoor
