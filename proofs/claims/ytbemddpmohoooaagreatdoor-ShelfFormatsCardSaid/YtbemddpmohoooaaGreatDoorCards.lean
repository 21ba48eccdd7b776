/-
  DERIVED. GIVEN WITH THE SEED: THE CARDS: each row of YtbemddpmohoooaaGreatDoorRows.lean that lists a variable, with what it lists TIED to the program's text (the seventh form; the later family's looks); each row that meets fmt, with fmt's text TOLD by the authors' own Lean function (tested against real Go, not proved from fmt's source: count such statements apart). THE CARD IS WHAT COUNTS. Prove the row's statement (the work); the ties are given (YtbemddpmohoooaaGreatDoorTie.lean); close each card by the builder's one call (the guide's Derived/Test/ToyasCard.lean, 'card_holds'). Laid BY PROGRAM, IN A SANDBOX (cutbox-door.mjs). By AI agents, Wed Nov 11 2026. No macro, syntax, notation, axiom, sorry.
-/
import Derived.Test.YtbemddpmohoooaaGreatDoorRows
import GoSem.ClaimSeven
namespace Go.Proofs.YtbemddpmohoooaaGreatDoor
namespace Rows

/-- THE TIED CARD OF 'larderlaw29.ShelfFormats'. -/
def shelfFormatsCard : Claim7 := { stood := { row := shelfFormatsRow, standIns := [], harness := (true, "25777640c29dd7408f9e28d13e7740434a1971711041cea07078faf43c76a6ec"), looks := true }, kinds := [], alts := [], laidByText := true, laidKinds := [.data, .data, .data, .sentinel, .sentinel, .data, .data, .data], laidTests := true, laidLooks := .later }
def ShelfFormatsCardSaid : Prop := Claim7.holds Tryz.pinned (.plain (OpenSpec.ofChange shelfFormatsSpec)) shelfFormatsCard

/-- THE SECOND FORM's CARD OF 'larderlaw29.ShelfFormats'. -/
def shelfFormatsUptoCard : Claim7 := { stood := { row := shelfFormatsUptoRow, standIns := [], harness := (true, "25777640c29dd7408f9e28d13e7740434a1971711041cea07078faf43c76a6ec"), looks := true }, kinds := [], alts := [], laidByText := true, laidKinds := [.data, .data, .data, .sentinel, .sentinel, .data, .data, .data], laidTests := true, laidLooks := .later }
def ShelfFormatsUptoCardSaid : Prop := Claim7.holds Tryz.pinned (.plain (OpenSpec.upto shelfFormatsSpec)) shelfFormatsUptoCard
end Rows
end Go.Proofs.YtbemddpmohoooaaGreatDoor
