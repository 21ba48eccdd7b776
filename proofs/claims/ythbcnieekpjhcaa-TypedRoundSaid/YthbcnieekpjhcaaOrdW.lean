/- TypedOrder's small functions, walked. -/
import Derived.Test.YthbcnieekpjhcaaOrdB
import Derived.Test.YthbcnieekpjhcaaBothC
import Derived.Test.YthbcnieekpjhcaaFloatC
namespace Go.Proofs.Ythbcnieekpjhcaa.Leaf
open Go.RowKit Go.Proofs.YthbcnieekpjhcaaW.PrintWords Go.Proofs.YthbcnieekpjhcaaW.PrintLast Go.Proofs.YthbcnieekpjhcaaW.PrintMore
set_option linter.unusedVariables false
set_option linter.unusedSimpArgs false

theorem number_f64 (f : Nat) (w : World) : Calls Try.prog 15 #[.float .f64 f] w fun e w' => e = .returned (.bool (FloatKind.f64.format.order f f == some .eq)) ∧ Below w.heap.size w w' := by
  go_enter Try.func15, Try.ntmps15
  go_wp2_with fail
  go_ret
  exact ⟨rfl, Below.refl _ _⟩
theorem below_f64 (f g : Nat) (w : World) : Calls Try.prog 14 #[.float .f64 f, .float .f64 g] w fun e w' => e = .returned (.bool (belowF f g)) ∧ Below w.heap.size w w' := by
  unfold belowF
  have h0 : Below w.heap.size w w := Below.refl _ _
  have hn := number_f64
  cases hl : (FloatKind.f64.format.order f g == some .lt) with
  | true =>
    go_enter Try.func14, Try.ntmps14
    go_wp2_with fail
    go_ret
    exact ⟨rfl, h0⟩
  | false =>
    have h1 := fun w => number_f64 f w
    have h2 := fun w => number_f64 g w
    cases hf : (FloatKind.f64.format.order f f == some .eq) with
    | false =>
      rw [hf] at h1
      have H1 := Lib.hid h1
      clear h1 h2 hn
      go_enter Try.func14, Try.ntmps14
      go_wp2_with fail
      refine (call_in (H1.out _) (Nat.le_refl _) h0).mono ?_
      rintro e w1 ⟨rfl, k1⟩
      clear h0
      go_wp2_with fail
      go_ret
      exact ⟨rfl, k1⟩
    | true =>
      rw [hf] at h1
      generalize (FloatKind.f64.format.order g g == some .eq) = r at *
      have H1 := Lib.hid h1
      have H2 := Lib.hid h2
      clear h1 h2 hn
      go_enter Try.func14, Try.ntmps14
      go_wp2_with fail
      refine (call_in (H1.out _) (Nat.le_refl _) h0).mono ?_
      rintro e w1 ⟨rfl, k1⟩
      clear h0
      go_wp2_with fail
      refine (call_in (H2.out _) (Nat.le_refl _) k1).mono ?_
      rintro e w2 ⟨rfl, k2⟩
      clear k1
      go_wp2_with fail
      go_ret
      exact ⟨rfl, k2⟩
end Go.Proofs.Ythbcnieekpjhcaa.Leaf
