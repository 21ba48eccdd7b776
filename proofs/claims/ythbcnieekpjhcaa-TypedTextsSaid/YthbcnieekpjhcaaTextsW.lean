/- TypedTexts' walk: for every list of asks it returns true and writes nothing that was there. -/
import Derived.Test.YthbcnieekpjhcaaBothL
import Derived.Test.YthbcnieekpjhcaaAsks
namespace Go.Proofs.Ythbcnieekpjhcaa.Leaf
open Go.RowKit Go.Proofs.YthbcnieekpjhcaaW.PrintWords Go.Proofs.YthbcnieekpjhcaaW.PrintLast Go.Proofs.YthbcnieekpjhcaaW.PrintMore
set_option linter.unusedVariables false
set_option linter.unusedSimpArgs false

theorem last_text (w : World) : Calls Try.prog 22 #[.agg #[.int .i64 3], .string ⟨#[97, 98]⟩] w fun e w' => e = .returned (.tuple #[.string ⟨#[97, 98, 0, 2]⟩, .bool true]) ∧ Below w.heap.size w w' := by
  have h := text_pack 3 ⟨#[97, 98]⟩ w
  have e : packT 3 ⟨#[97, 98]⟩ = ⟨#[97, 98, 0, 2]⟩ := by decide +kernel
  have e2 : textIn 3 ⟨#[97, 98]⟩ = true := by decide +kernel
  rw [e, e2] at h
  exact h

set_option maxRecDepth 100000 in
theorem texts_walk (a : Option Addr) (len cap : Nat) (w : World) (h : IsAsks w a len cap) :
    Calls Try.prog 7 #[.slice a len cap] w fun e w' => e = .returned (.bool true) ∧ Below w.heap.size w w' := by
  rcases h with rfl | ⟨b, off, rfl, hlen, hall⟩
  · go_enter Try.func7, Try.ntmps7
    go_wp2_with fail
    go_loopw [3] (fun i wr => i = .int .i64 0 ∧ Below w.heap.size w wr) (fun i wr => 0)
    case atStart => exact ⟨rfl, Below.refl _ _⟩
    case round =>
      obtain ⟨rfl, hB⟩ := hrel
      go_wp2_with fail
      refine (last_text _).mono ?_
      rintro e w1 ⟨rfl, h1⟩
      go_wp2_with fail
      go_ret
      exact ⟨by simp, hB.trans (h1.mono hB.size)⟩
  · unfold maxLen at hlen
    go_enter Try.func7, Try.ntmps7
    go_wp2_with fail
    go_loopw [3] (fun i wr => ∃ k : Nat, k ≤ len ∧ i = .int .i64 k ∧ Below w.heap.size w wr) (fun i wr => len - (intOf i).toNat)
    case atStart => exact ⟨0, Nat.zero_le _, rfl, Below.refl _ _⟩
    case round =>
      obtain ⟨k, hk, rfl, hB⟩ := hrel
      by_cases hlt : k < len
      · obtain ⟨i, u, f, c, m, s, raw, ⟨c0, c1, c2, c3, c4, c5, c6⟩, i0, i1, u0, u1, -, -, -, -, -⟩ := hall k hlt
        have hblt : b < w.heap.size := World.block_lt_of_cell? w _ c0
        have d0 := c0
        have d1 := c1
        have d2 := c2
        have d3 := c3
        have d4 := c4
        have d5 := c5
        have d6 := c6
        have hc : ∀ x, Below w.heap.size w x → ∀ o, x.cell? ⟨b, o, none⟩ = w.cell? ⟨b, o, none⟩ := fun x hx o => hx.cell (p := ⟨b, o, none⟩) hblt
        rw [← hc _ hB] at c0 c1 c2 c3 c4 c5 c6
        have HC := Lib.hid hc
        have D0 := Lib.hid d0
        have D1 := Lib.hid d1
        have D2 := Lib.hid d2
        have D3 := Lib.hid d3
        have D4 := Lib.hid d4
        have D5 := Lib.hid d5
        have D6 := Lib.hid d6
        clear hc d0 d1 d2 d3 d4 d5 d6
        go_wp2_with fail
        refine (text_call i u f c m s raw _).mono ?_
        rintro e w1 ⟨rfl, h1⟩
        have hB1 := hB.trans (h1.mono hB.size)
        clear c0 c1 c2 c3 c4 c5 c6 h1 hB
        have c0 := D0.out
        have c1 := D1.out
        have c2 := D2.out
        have c3 := D3.out
        have c4 := D4.out
        have c5 := D5.out
        have c6 := D6.out
        rw [← HC.out _ hB1] at c0 c1 c2 c3 c4 c5 c6
        go_wp2_with fail
        refine (both_call i u f c m s raw _ u0 u1).mono ?_
        rintro e w2 ⟨rfl, h2⟩
        have hB2 := hB1.trans (h2.mono hB1.size)
        clear c0 c1 c2 c3 c4 c5 c6 h2 hB1 HC
        go_wp2_with fail
        go_roundw
        case rel => exact ⟨k + 1, by omega, by go_num, hB2⟩
        case measure => simp [intOf]; omega
      · go_wp2_with fail
        refine (last_text _).mono ?_
        rintro e w1 ⟨rfl, h1⟩
        go_wp2_with fail
        go_ret
        exact ⟨by simp, hB.trans (h1.mono hB.size)⟩
end Go.Proofs.Ythbcnieekpjhcaa.Leaf
