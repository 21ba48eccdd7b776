/- The program's own Mix: what it returns. -/
import Derived.Test.YthbcnieekpjhcaaDoorArr
set_option linter.unusedVariables false
set_option linter.unusedSimpArgs false
namespace Go.Proofs.YthbcnieekpjhcaaDoor.Wk
open Go Go.RowKit

def stepO (h c : Int) : Int :=
  let g := IntKind.u64.wrap (bits .xor .u64 h (IntKind.u64.wrap c) * 11329751410908088055)
  bits .xor .u64 g (g / 2147483648)
def runO (h : Int) (l : List UInt8) : Int := l.foldl (fun h c => stepO h c.toNat) h
def lastO (h : Int) : Int :=
  let g := bits .xor .u64 h (h / 536870912)
  let k := IntKind.u64.wrap (g * 13234230157428861123)
  bits .xor .u64 k (k / 4294967296)
def firstO (seed n : Int) : Int := bits .xor .u64 seed (IntKind.u64.wrap (13234230157428861123 * n))

def OraR (h0 : Int) (l : List UInt8) (w : World) (v i : Value) (wr : World) : Prop :=
  ∃ (k n : Nat) (H : Int), k ≤ l.length ∧ i = .int .i64 k ∧ v = .int .u64 H ∧ (0 ≤ H ∧ H < 18446744073709551616) ∧ wr = w.drewN n ∧ H = runO h0 (l.take k)

theorem u64_range (x : Int) : 0 ≤ IntKind.u64.wrap x ∧ IntKind.u64.wrap x < 18446744073709551616 := by rw [IntKind.wrap_u64]; omega
theorem firstO_range (seed n : Int) (h0 : 0 ≤ seed) (h1 : seed < 18446744073709551616) : 0 ≤ firstO seed n ∧ firstO seed n < 18446744073709551616 := Pu.xor_range _ _ ⟨h0, h1⟩ (u64_range _)
theorem divO_range (x d : Int) (hx : 0 ≤ x ∧ x < 18446744073709551616) (hd : 0 < d) : 0 ≤ x / d ∧ x / d < 18446744073709551616 := by
  refine ⟨Int.ediv_nonneg hx.1 (by omega), ?_⟩
  have := Int.ediv_le_self d hx.1
  omega
theorem stepO_range (h c : Int) : 0 ≤ stepO h c ∧ stepO h c < 18446744073709551616 := Pu.xor_range _ _ (u64_range _) (divO_range _ _ (u64_range _) (by omega))

set_option maxHeartbeats 1000000 in
set_option maxRecDepth 100000 in
theorem omix_call (seed : Int) (s : ByteArray) (w : World) (G0 : w.cell? ⟨0, 0, none⟩ = some (.int .u64 13234230157428861123)) (G1 : w.cell? ⟨0, 1, none⟩ = some (.int .u64 11329751410908088055))
    (h0 : 0 ≤ seed) (h1 : seed < 18446744073709551616) (hs : s.size ≤ 140737488351232) :
    Calls Tryd.prog 6 #[.int .u64 seed, .string s] w fun e w' => e = .returned (.int .u64 (lastO (runO (firstO seed (1 + s.size)) s.data.toList))) ∧ Hid (∃ n, w' = w.drewN n) := by
  have fr := firstO_range seed (1 + s.size) h0 h1
  have HL := Lib.hid (show s.data.toList.length = s.size by rw [Array.length_toList]; rfl)
  go_enter Tryd.func6, Tryd.ntmps6
  go_wp2_with fail
  go_loopw [5, 6] (fun v i wr => OraR (firstO seed (1 + s.size)) s.data.toList w v i wr) (fun v i wr => s.size - (intOf i).toNat)
  case atStart => exact ⟨0, 0, _, Nat.zero_le _, rfl, rfl, fr, rfl, rfl⟩
  case round =>
    clear fr
    obtain ⟨k, n, H, hk, rfl, rfl, hH, rfl, hH2⟩ := hrel
    have HH := Lib.hid hH2
    clear hH2
    rw [HL.out] at hk
    by_cases hlt : k < s.size
    · have HC := Lib.hid (show 0 ≤ ((s[k].toNat : Nat) : Int) ∧ ((s[k].toNat : Nat) : Int) < 256 by have := UInt8.toNat_lt s[k]; omega)
      have HS := Lib.hid (show runO (firstO seed (1 + s.size)) (s.data.toList.take (k + 1)) = stepO H s[k].toNat by
        rw [HH.out, runO, runO, List.take_succ_eq_append_getElem (by rw [HL.out]; exact hlt), List.foldl_append]; rfl)
      go_wp2_with fail
      go_quiet (fail)
      go_wp2_with fail
      exact ⟨⟨k + 1, _, stepO H s[k].toNat, by rw [HL.out]; omega, by go_num, rfl, stepO_range _ _, rfl, HS.out.symm⟩, by simp [intOf]; omega⟩
    · obtain rfl : k = s.size := by omega
      have hH3 : runO (firstO seed (1 + s.size)) s.data.toList = H := by rw [HH.out, List.take_of_length_le (by rw [HL.out]; exact Nat.le_refl _)]
      have HF := Lib.hid hH3
      clear hH3
      go_wp2_with fail
      go_ret
      exact ⟨by rw [HF.out]; rfl, ⟨n, rfl⟩⟩

/-! ### The two are one -/
theorem wrap_mod (x : Int) : IntKind.u64.wrap x = x % 18446744073709551616 := by rw [IntKind.wrap_u64]
end Go.Proofs.YthbcnieekpjhcaaDoor.Wk
