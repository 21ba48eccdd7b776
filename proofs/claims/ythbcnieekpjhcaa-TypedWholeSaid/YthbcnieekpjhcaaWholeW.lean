/- TypedWhole's walk: for every list of asks it returns true and writes nothing that was there. -/
import Derived.Test.YthbcnieekpjhcaaWhole
import Derived.Test.YthbcnieekpjhcaaAsks
namespace Go.Proofs.Ythbcnieekpjhcaa.Leaf
open Go.RowKit Go.Proofs.YthbcnieekpjhcaaW.PrintWords Go.Proofs.YthbcnieekpjhcaaW.PrintLast Go.Proofs.YthbcnieekpjhcaaW.PrintMore
set_option linter.unusedVariables false
set_option linter.unusedSimpArgs false

theorem last_pack (w : World) : Calls Try.prog 9 #[.agg #[], .int .i64 (-1)] w fun e w' => e = .returned (.tuple #[.string ⟨#[127, 255, 255, 255, 255, 255, 255, 255]⟩, .bool true]) ∧ Below w.heap.size w w' := by
  have h := int_pack (-1) w (by omega) (by omega)
  have e : be8 (-1 + 9223372036854775808) = ⟨#[127, 255, 255, 255, 255, 255, 255, 255]⟩ := by decide +kernel
  rw [e] at h
  exact h

set_option maxRecDepth 100000 in
theorem whole_walk (a : Option Addr) (len cap : Nat) (w : World) (h : IsAsks w a len cap) :
    Calls Try.prog 3 #[.slice a len cap] w fun e w' => e = .returned (.bool true) ∧ Below w.heap.size w w' := by
  rcases h with rfl | ⟨b, off, rfl, hlen, hall⟩
  · go_enter Try.func3, Try.ntmps3
    go_wp2_with fail
    go_loopw [3] (fun i wr => i = .int .i64 0 ∧ Below w.heap.size w wr) (fun i wr => 0)
    case atStart => exact ⟨rfl, Below.refl _ _⟩
    case round =>
      obtain ⟨rfl, hB⟩ := hrel
      go_wp2_with fail
      refine (last_pack _).mono ?_
      rintro e w1 ⟨rfl, h1⟩
      go_wp2_with fail
      go_ret
      exact ⟨by simp, hB.trans (h1.mono hB.size)⟩
  · unfold maxLen at hlen
    go_enter Try.func3, Try.ntmps3
    go_wp2_with fail
    go_loopw [3] (fun i wr => ∃ k : Nat, k ≤ len ∧ i = .int .i64 k ∧ Below w.heap.size w wr) (fun i wr => len - (intOf i).toNat)
    case atStart => exact ⟨0, Nat.zero_le _, rfl, Below.refl _ _⟩
    case round =>
      obtain ⟨k, hk, rfl, hB⟩ := hrel
      by_cases hlt : k < len
      · obtain ⟨i, u, f, c, m, s, raw, ⟨c0, c1, c2, c3, c4, c5, c6⟩, i0, i1, u0, u1, -, -, -, -, -⟩ := hall k hlt
        have hblt : b < w.heap.size := World.block_lt_of_cell? w _ c0
        have hc : ∀ o, wr.cell? ⟨b, o, none⟩ = w.cell? ⟨b, o, none⟩ := fun o => hB.cell (p := ⟨b, o, none⟩) hblt
        rw [← hc] at c0 c1 c2 c3 c4 c5 c6
        clear hc
        go_wp2_with fail
        refine (whole_call i u f c m s raw _ i0 i1 u0 u1).mono ?_
        rintro e w1 ⟨rfl, h1⟩
        go_wp2_with fail
        go_roundw
        case rel => exact ⟨k + 1, by omega, by go_num, hB.trans (h1.mono hB.size)⟩
        case measure => simp [intOf]; omega
      · go_wp2_with fail
        refine (last_pack _).mono ?_
        rintro e w1 ⟨rfl, h1⟩
        go_wp2_with fail
        go_ret
        exact ⟨by simp, hB.trans (h1.mono hB.size)⟩
end Go.Proofs.Ythbcnieekpjhcaa.Leaf
