/-
  DERIVED. GIVEN WITH THE SEED: THE CARDS: each row of YthbcnieekpjhcaaDoorRows.lean that lists a variable, with what it lists TIED to the program's text (the seventh form; the later family's looks); each row that meets fmt, with fmt's text TOLD by the authors' own Lean function (tested against real Go, not proved from fmt's source: count such statements apart). THE CARD IS WHAT COUNTS. Prove the row's statement (the work); the ties are given (YthbcnieekpjhcaaDoorTie.lean); close each card by the builder's one call (the guide's Derived/Test/ToyasCard.lean, 'card_holds'). Laid BY PROGRAM, IN A SANDBOX (cutbox-door.mjs). By AI agents, Wed Nov 11 2026. No macro, syntax, notation, axiom, sorry.
-/
import Derived.Test.YthbcnieekpjhcaaDoorRows
import GoSem.ClaimSeven
namespace Go.Proofs.YthbcnieekpjhcaaDoor
namespace Rows

/-- THE TIED CARD OF 'larderlaw19.ImageSums'. -/
def imageSumsCard : Claim7 := { stood := { row := imageSumsRow, standIns := [], harness := (true, "a83acff66f92fad6eb8f1a3731b41a57326defc19883903e0118d721fafc539b"), looks := false }, kinds := [], alts := [], laidByText := true, laidKinds := [.data], laidTests := true, laidLooks := .later }
def ImageSumsCardSaid : Prop := Claim7.holds Tryd.pinned (.plain (OpenSpec.ofChange imageSumsSpec)) imageSumsCard

/-- THE SECOND FORM's CARD OF 'larderlaw19.ImageSums'. -/
def imageSumsUptoCard : Claim7 := { stood := { row := imageSumsUptoRow, standIns := [], harness := (true, "a83acff66f92fad6eb8f1a3731b41a57326defc19883903e0118d721fafc539b"), looks := false }, kinds := [], alts := [], laidByText := true, laidKinds := [.data], laidTests := true, laidLooks := .later }
def ImageSumsUptoCardSaid : Prop := Claim7.holds Tryd.pinned (.plain (OpenSpec.upto imageSumsSpec)) imageSumsUptoCard
end Rows
end Go.Proofs.YthbcnieekpjhcaaDoor
