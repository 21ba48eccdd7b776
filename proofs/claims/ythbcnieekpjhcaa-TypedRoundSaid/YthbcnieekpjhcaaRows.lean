/-
  No cell of these rows narrows 'for every input' (looked for: loops, veiled, ifaces, maps, wideKeys, modest, calm, conditions, laid).
  DERIVED. THE GIVEN ROWS OF THIS SEAT. 5 by the template 'for every input the law returns true; each argument reads behind the call as it read before'; 0 by the template 'total and deterministic' (their statements: YthbcnieekpjhcaaTotals.lean).
  GIVEN WITH THE SEED: the statements are not yours to turn. If you find one false, say at which input.
  Laid BY PROGRAM, IN A SANDBOX (cutbox-rows.mjs): the forced cells as the released guide's own fill.sh prints them over the translation c091774daefbc409… (all of the seat's roots in one cut). By AI agents, Wed Nov 11 2026. No macro, syntax, notation, axiom, sorry.
-/
import Derived.Test.YthbcnieekpjhcaaChecked
import GoSem.Claim
import GoSem.ClaimJoined
import GoSem.ClaimMapViews
import Derived.JoinedTies
import Derived.KernelRfl
namespace Go.Proofs.Ythbcnieekpjhcaa
/- THE CELL 'sum', in the pinned program and in every row, IS THE sha256 OF THE DUMP (.gsa) THAT YthbcnieekpjhcaaProg.lean LOADS. Nothing in Lean hashes anything: it is a label: what it is worth is what the hold of that sum in a sandbox is worth. -/
noncomputable def Try.pinned : Pinned := { name := "ythbcnieekpjhcaa", sum := "c091774daefbc40980fdac4a34f7f741a23c519b68fa9f38fca4f9a0c83e8a0f", checked := Try.checked }
namespace Rows
def none {H : Type} : Left H := { results := [], args := [] }

/-- 'larderlaw21.TypedWhole': WHATEVER THE INPUT: true; the input reads as it did. -/
def typedWholeSpec : ChangeSpec := { name := "typedWhole", fn := fun _ => fun
  | [d] => { results := [.lit (.bool true)], args := [d] }
  | _ => none }
def typedWholeRow : OpenClaim := { program := "ythbcnieekpjhcaa", sum := "c091774daefbc40980fdac4a34f7f741a23c519b68fa9f38fca4f9a0c83e8a0f", func := "larder/larderlaw21.TypedWhole", spec := "typedWhole", apart := false }
def TypedWholeSaid : Prop := typedWholeRow.holds Try.pinned (OpenSpec.ofChange typedWholeSpec)

/-- ITS FALSE NEIGHBOUR: 'it returns false'. Refute it at one input. -/
def typedWholeWrong : ChangeSpec := { name := "typedWhole", fn := fun _ => fun
  | [d] => { results := [.lit (.bool false)], args := [d] }
  | _ => none }
def TypedWholeWrongFalsely : Prop := typedWholeRow.holds Try.pinned (OpenSpec.ofChange typedWholeWrong)

/-- 'larderlaw21.TypedFloats': WHATEVER THE INPUT: true; the input reads as it did. -/
def typedFloatsSpec : ChangeSpec := { name := "typedFloats", fn := fun _ => fun
  | [d] => { results := [.lit (.bool true)], args := [d] }
  | _ => none }
def typedFloatsRow : OpenClaim := { program := "ythbcnieekpjhcaa", sum := "c091774daefbc40980fdac4a34f7f741a23c519b68fa9f38fca4f9a0c83e8a0f", func := "larder/larderlaw21.TypedFloats", spec := "typedFloats", inPlace := ["math.Float64bits", "math.Float64frombits"], apart := false }
def TypedFloatsSaid : Prop := typedFloatsRow.holds Try.pinned (OpenSpec.ofChange typedFloatsSpec)

/-- ITS FALSE NEIGHBOUR: 'it returns false'. Refute it at one input. -/
def typedFloatsWrong : ChangeSpec := { name := "typedFloats", fn := fun _ => fun
  | [d] => { results := [.lit (.bool false)], args := [d] }
  | _ => none }
def TypedFloatsWrongFalsely : Prop := typedFloatsRow.holds Try.pinned (OpenSpec.ofChange typedFloatsWrong)

/-- 'larderlaw21.TypedOrder': WHATEVER THE INPUT: true; the input reads as it did. -/
def typedOrderSpec : ChangeSpec := { name := "typedOrder", fn := fun _ => fun
  | [d] => { results := [.lit (.bool true)], args := [d] }
  | _ => none }
def typedOrderRow : OpenClaim := { program := "ythbcnieekpjhcaa", sum := "c091774daefbc40980fdac4a34f7f741a23c519b68fa9f38fca4f9a0c83e8a0f", func := "larder/larderlaw21.TypedOrder", spec := "typedOrder", inPlace := ["math.Float64bits"], unfollowed := true, recurses := true, apart := false }
def TypedOrderSaid : Prop := typedOrderRow.holds Try.pinned (OpenSpec.ofChange typedOrderSpec)

/-- ITS FALSE NEIGHBOUR: 'it returns false'. Refute it at one input. -/
def typedOrderWrong : ChangeSpec := { name := "typedOrder", fn := fun _ => fun
  | [d] => { results := [.lit (.bool false)], args := [d] }
  | _ => none }
def TypedOrderWrongFalsely : Prop := typedOrderRow.holds Try.pinned (OpenSpec.ofChange typedOrderWrong)

/-- 'larderlaw21.TypedRound': WHATEVER THE INPUT: true; the input reads as it did. -/
def typedRoundSpec : ChangeSpec := { name := "typedRound", fn := fun _ => fun
  | [d1, d2] => { results := [.lit (.bool true)], args := [d1, d2] }
  | _ => none }
def typedRoundRow : OpenClaim := { program := "ythbcnieekpjhcaa", sum := "c091774daefbc40980fdac4a34f7f741a23c519b68fa9f38fca4f9a0c83e8a0f", func := "larder/larderlaw21.TypedRound", spec := "typedRound", inPlace := ["math.Float64bits", "math.Float64frombits"], unfollowed := true, recurses := true, apart := false }
def TypedRoundSaid : Prop := typedRoundRow.holds Try.pinned (OpenSpec.ofChange typedRoundSpec)

/-- ITS FALSE NEIGHBOUR: 'it returns false'. Refute it at one input. -/
def typedRoundWrong : ChangeSpec := { name := "typedRound", fn := fun _ => fun
  | [d1, d2] => { results := [.lit (.bool false)], args := [d1, d2] }
  | _ => none }
def TypedRoundWrongFalsely : Prop := typedRoundRow.holds Try.pinned (OpenSpec.ofChange typedRoundWrong)

/-- 'larderlaw21.TypedTexts': WHATEVER THE INPUT: true; the input reads as it did. -/
def typedTextsSpec : ChangeSpec := { name := "typedTexts", fn := fun _ => fun
  | [d] => { results := [.lit (.bool true)], args := [d] }
  | _ => none }
def typedTextsRow : OpenClaim := { program := "ythbcnieekpjhcaa", sum := "c091774daefbc40980fdac4a34f7f741a23c519b68fa9f38fca4f9a0c83e8a0f", func := "larder/larderlaw21.TypedTexts", spec := "typedTexts", unfollowed := true, recurses := true, apart := false }
def TypedTextsSaid : Prop := typedTextsRow.holds Try.pinned (OpenSpec.ofChange typedTextsSpec)

/-- ITS FALSE NEIGHBOUR: 'it returns false'. Refute it at one input. -/
def typedTextsWrong : ChangeSpec := { name := "typedTexts", fn := fun _ => fun
  | [d] => { results := [.lit (.bool false)], args := [d] }
  | _ => none }
def TypedTextsWrongFalsely : Prop := typedTextsRow.holds Try.pinned (OpenSpec.ofChange typedTextsWrong)

/- THE SECOND FORM. 'bulk': how many values and letters a reading holds, each counted each time it is reached (what is shared counts as often as it is met; a slice's spare places count too). A statement '..UptoSaid' is the law's where the arguments, and the package variables that the reading takes, are together of bulk at most 1048576: NARROWER than '..Said'. Prove '..Said' where nothing that the law and all that it calls make is longer than what came in: it says more and counts as full. Else prove '..UptoSaid'. A law counts once. -/
mutual
def uptoBulk {H : Type} : DataW H → Nat
  | .lit (.string bytes) => bytes.length + 1
  | .lit _ => 1
  | .nil => 1
  | .ptr d => uptoBulk d + 1
  | .slice elems spare => uptoBulkAll elems + uptoBulkAll spare + 1
  | .agg parts => uptoBulkAll parts + 1
  | .iface _ d => uptoBulk d + 1
  | .map entries => uptoBulkEntries entries + 1
  | .held _ => 1
def uptoBulkAll {H : Type} : List (DataW H) → Nat
  | [] => 0
  | d :: r => uptoBulk d + uptoBulkAll r
def uptoBulkEntries {H : Type} : List (Lit × DataW H) → Nat
  | [] => 0
  | x :: r => uptoBulkEntry x + uptoBulkEntries r
def uptoBulkEntry {H : Type} : Lit × DataW H → Nat
  | (.string bytes, d) => bytes.length + uptoBulk d + 1
  | (_, d) => uptoBulk d + 1
 end
def uptoSmall : (H : Type) → List (DataW H) → Bool := fun _ ds => decide (uptoBulkAll ds ≤ 1048576)
def OpenSpec.upto (s : _root_.Go.ChangeSpec) : _root_.Go.OpenSpec := { _root_.Go.OpenSpec.ofChange s with cond := some uptoSmall }

/-- 'larderlaw21.TypedWhole', WHERE WHAT IT READS IS OF BULK AT MOST 1048576: true; the input reads as it did. -/
def typedWholeUptoRow : OpenClaim := { program := "ythbcnieekpjhcaa", sum := "c091774daefbc40980fdac4a34f7f741a23c519b68fa9f38fca4f9a0c83e8a0f", func := "larder/larderlaw21.TypedWhole", spec := "typedWhole", apart := false, narrowed := true }
def TypedWholeUptoSaid : Prop := typedWholeUptoRow.holds Try.pinned (OpenSpec.upto typedWholeSpec)

/-- 'larderlaw21.TypedFloats', WHERE WHAT IT READS IS OF BULK AT MOST 1048576: true; the input reads as it did. -/
def typedFloatsUptoRow : OpenClaim := { program := "ythbcnieekpjhcaa", sum := "c091774daefbc40980fdac4a34f7f741a23c519b68fa9f38fca4f9a0c83e8a0f", func := "larder/larderlaw21.TypedFloats", spec := "typedFloats", inPlace := ["math.Float64bits", "math.Float64frombits"], apart := false, narrowed := true }
def TypedFloatsUptoSaid : Prop := typedFloatsUptoRow.holds Try.pinned (OpenSpec.upto typedFloatsSpec)

/-- 'larderlaw21.TypedOrder', WHERE WHAT IT READS IS OF BULK AT MOST 1048576: true; the input reads as it did. -/
def typedOrderUptoRow : OpenClaim := { program := "ythbcnieekpjhcaa", sum := "c091774daefbc40980fdac4a34f7f741a23c519b68fa9f38fca4f9a0c83e8a0f", func := "larder/larderlaw21.TypedOrder", spec := "typedOrder", inPlace := ["math.Float64bits"], unfollowed := true, recurses := true, apart := false, narrowed := true }
def TypedOrderUptoSaid : Prop := typedOrderUptoRow.holds Try.pinned (OpenSpec.upto typedOrderSpec)

/-- 'larderlaw21.TypedRound', WHERE WHAT IT READS IS OF BULK AT MOST 1048576: true; the input reads as it did. -/
def typedRoundUptoRow : OpenClaim := { program := "ythbcnieekpjhcaa", sum := "c091774daefbc40980fdac4a34f7f741a23c519b68fa9f38fca4f9a0c83e8a0f", func := "larder/larderlaw21.TypedRound", spec := "typedRound", inPlace := ["math.Float64bits", "math.Float64frombits"], unfollowed := true, recurses := true, apart := false, narrowed := true }
def TypedRoundUptoSaid : Prop := typedRoundUptoRow.holds Try.pinned (OpenSpec.upto typedRoundSpec)

/-- 'larderlaw21.TypedTexts', WHERE WHAT IT READS IS OF BULK AT MOST 1048576: true; the input reads as it did. -/
def typedTextsUptoRow : OpenClaim := { program := "ythbcnieekpjhcaa", sum := "c091774daefbc40980fdac4a34f7f741a23c519b68fa9f38fca4f9a0c83e8a0f", func := "larder/larderlaw21.TypedTexts", spec := "typedTexts", unfollowed := true, recurses := true, apart := false, narrowed := true }
def TypedTextsUptoSaid : Prop := typedTextsUptoRow.holds Try.pinned (OpenSpec.upto typedTextsSpec)

end Rows
end Go.Proofs.Ythbcnieekpjhcaa
