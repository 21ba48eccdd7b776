/- Both Sums are one number. -/
import Derived.Test.YthbcnieekpjhcaaDoorMixR
import Derived.Test.YthbcnieekpjhcaaDoorOra
import Derived.Test.YthbcnieekpjhcaaDoorProg
import Derived.Below
import Derived.Deep.Draws
import Derived.Deep.AppendLies
import Derived.Maps.AppendAt
import Derived.OwnWalk
import Derived.Laws.BytesArg
import Derived.Laws.MakeOwn
import Derived.Laws.OwnMore
import Derived.Deep.OwnRows
import Derived.Tactics
import Derived.Lib.ConvBytes
import Derived.Laws.Slices
import Derived.WalkKit
import Derived.KernelRfl
import Derived.RowKit3
import Derived.Deep.LoopGhost
import Derived.Deep.QuietTactic
import Derived.BigQuiet
import Derived.WideLaws
import Derived.Deep.DeepCutAuto
import Derived.Deep.CutBlock
import Derived.Deep.RegionHeld3
import Derived.Laws.Rows
import Derived.Lib.AppendStr
import Derived.ArgAppend
import Derived.Laws.IdiomCopy
import Derived.OrdersHeld
import Derived.Laws.BitsLemmas
import Derived.RowKit
import Derived.Test.YthbcnieekpjhcaaDoorWWords
import Derived.Test.YthbcnieekpjhcaaDoorWLast
import Derived.Test.YthbcnieekpjhcaaDoorWTab
import Derived.Test.YthbcnieekpjhcaaDoorWFour
import Derived.Test.YthbcnieekpjhcaaDoorWQPut
import Derived.Test.YthbcnieekpjhcaaDoorWApart
import Derived.Test.YthbcnieekpjhcaaDoorWArr
import Derived.Test.YthbcnieekpjhcaaDoorWZeros
import Derived.Test.YthbcnieekpjhcaaDoorWFoot
import Derived.Test.YthbcnieekpjhcaaDoorWKept
import Derived.Test.YthbcnieekpjhcaaDoorWShare
import Derived.Test.YthbcnieekpjhcaaDoorWN
import Derived.Test.YthbcnieekpjhcaaDoorWFootNe
import Derived.Test.YthbcnieekpjhcaaDoorWAt
import Derived.Test.YthbcnieekpjhcaaDoorWEqStruct
import Derived.Test.YthbcnieekpjhcaaDoorWRepsOne
import Derived.Test.YthbcnieekpjhcaaDoorWInv
import Derived.Test.YthbcnieekpjhcaaDoorWInvWords
import Derived.Test.YthbcnieekpjhcaaDoorWGuard
import Derived.Test.YthbcnieekpjhcaaDoorWNEv
import Derived.Test.YthbcnieekpjhcaaDoorWMore
set_option linter.unusedVariables false
set_option linter.unusedSimpArgs false
namespace Go.Proofs.YthbcnieekpjhcaaDoor.Wk
open Go Go.RowKit Go.Proofs.YthbcnieekpjhcaaDoorW.PrintWords Go.Proofs.YthbcnieekpjhcaaDoorW.PrintLast Go.Proofs.YthbcnieekpjhcaaDoorW.PrintMore

theorem step_same (h : Int) (c : UInt8) : stepO h c.toNat = stepH h c.toNat := by
  have hc : IntKind.u64.wrap ((c.toNat : Nat) : Int) = c.toNat := by have := UInt8.toNat_lt c; exact IntWalk.u64_in _ (by omega)
  simp only [stepO, stepH, hc, wrap_mod, B64]
theorem run_same (l : List UInt8) : ∀ h, runO h l = runH h l := by
  induction l with
  | nil => intro h; simp only [runO, runH, List.foldl_nil]
  | cons c l ih =>
    intro h
    have e1 : runO h (c :: l) = runO (stepO h c.toNat) l := by simp only [runO, List.foldl_cons]
    have e2 : runH h (c :: l) = runH (stepH h c.toNat) l := by simp only [runH, List.foldl_cons]
    rw [e1, e2, ih, step_same]
theorem last_same (h : Int) : lastO h = lastH h := by simp only [lastO, lastH, wrap_mod, A64]
theorem first_same (seed n : Int) : firstO seed n = firstH seed n := by simp only [firstO, firstH, wrap_mod, A64]

/-- the sum of these bytes -/
def sumOf (s : ByteArray) : Int := lastH (runH (firstH 19 (1 + s.size)) s.data.toList)
theorem sumO (s : ByteArray) : lastO (runO (firstO 19 (1 + s.size)) s.data.toList) = sumOf s := by rw [last_same, run_same, first_same]; rfl

theorem own_sum (A : Option Addr) (n c : Nat) (xs : List Int) (w : World) (h : ReadsInt w .u8 A n xs) (hn : n ≤ 140737488351232) (G0 : w.cell? ⟨0, 0, none⟩ = some (.int .u64 13234230157428861123)) (G1 : w.cell? ⟨0, 1, none⟩ = some (.int .u64 11329751410908088055)) :
    Calls Tryd.prog 4 #[.slice A n c] w fun e w' => e = .returned (.int .u64 (sumOf (strOfNums xs))) ∧ Below w.heap.size w w' := by
  have hcv := string_of_reads (P := Tryd.prog) (c := c) Tryd.underlying22 Tryd.underlying5 Tryd.underlying9 h
  have hs : (strOfNums xs).size ≤ 140737488351232 := by
    have : (strOfNums xs).size = xs.length := by unfold strOfNums ByteArray.size; simp
    rw [this, h.1]; exact hn
  have hm := fun w G0 G1 => omix_call 19 (strOfNums xs) w G0 G1 (by omega) (by omega) hs
  rw [sumO] at hm
  have HM := Lib.hid hm
  clear hm
  go_enter Tryd.func4, Tryd.ntmps4
  go_wp2_with fail
  refine (HM.out _ G0 G1).mono ?_
  rintro e w' ⟨rfl, hd⟩
  go_wp2_with fail
  go_ret
  obtain ⟨m, rfl⟩ := hd
  exact ⟨rfl, below_nd (Below.refl _ _) m⟩

theorem ref_sum (A : Option Addr) (n c : Nat) (xs : List Int) (w : World) (h : ReadsInt w .u8 A n xs) (hn : n ≤ 140737488351232) :
    Calls Tryd.prog 5 #[.slice A n c] w fun e w' => e = .returned (.int .u64 (sumOf (strOfNums xs))) ∧ Below w.heap.size w w' := by
  have hcv := string_of_reads (P := Tryd.prog) (c := c) Tryd.underlying22 Tryd.underlying5 Tryd.underlying9 h
  have hs : (strOfNums xs).size ≤ 140737488351232 := by
    have : (strOfNums xs).size = xs.length := by unfold strOfNums ByteArray.size; simp
    rw [this, h.1]; exact hn
  have HM := Lib.hid (fun w => mix_call 19 (strOfNums xs) w (by omega) (by omega) hs)
  go_enter Tryd.func5, Tryd.ntmps5
  go_wp2_with fail
  refine (HM.out _).mono ?_
  rintro e w' ⟨rfl, hd⟩
  go_wp2_with fail
  go_ret
  exact ⟨rfl, hd⟩
end Go.Proofs.YthbcnieekpjhcaaDoor.Wk
