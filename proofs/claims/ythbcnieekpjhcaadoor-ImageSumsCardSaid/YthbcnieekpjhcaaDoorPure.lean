/- Numbers of 64 bits as four digits to the base 65536, in plain arithmetic. -/
import Derived.WalkKit
import Derived.Laws.BitsAllLaws
set_option linter.unusedVariables false
namespace Go.Proofs.YthbcnieekpjhcaaDoor.Pu
open Go

/-- The digits, the lowest first. -/
def d0 (x : Int) : Int := x % 65536
def d1 (x : Int) : Int := x / 65536 % 65536
def d2 (x : Int) : Int := x / 4294967296 % 65536
def d3 (x : Int) : Int := x / 281474976710656 % 65536

theorem d_range (x : Int) : 0 ≤ d0 x ∧ d0 x < 65536 ∧ 0 ≤ d1 x ∧ d1 x < 65536 ∧ 0 ≤ d2 x ∧ d2 x < 65536 ∧ 0 ≤ d3 x ∧ d3 x < 65536 := by unfold d0 d1 d2 d3; omega
theorem d_sum (x : Int) (h0 : 0 ≤ x) (h1 : x < 18446744073709551616) : d0 x + d1 x * 65536 + d2 x * 4294967296 + d3 x * 281474976710656 = x := by unfold d0 d1 d2 d3; omega
/-- digits are told by what they are worth -/
theorem d_uniq (x a b c d : Int) (ha : 0 ≤ a ∧ a < 65536) (hb : 0 ≤ b ∧ b < 65536) (hc : 0 ≤ c ∧ c < 65536) (hd : 0 ≤ d ∧ d < 65536) (h : a + b * 65536 + c * 4294967296 + d * 281474976710656 = x) : a = d0 x ∧ b = d1 x ∧ c = d2 x ∧ d = d3 x := by
  unfold d0 d1 d2 d3; omega

theorem i64_xor_nat (a b : Nat) (ha : a < 65536) (hb : b < 65536) : bits .xor .i64 (a : Int) (b : Int) = ((a ^^^ b : Nat) : Int) := by
  have hx : a ^^^ b < 2 ^ 16 := Nat.xor_lt_two_pow (by omega) (by omega)
  show IntKind.i64.wrap ((BitVec.ofInt 64 (a : Int) ^^^ BitVec.ofInt 64 (b : Int)).toNat : Int) = _
  rw [BitVec.toNat_xor, BitVec.ofInt_natCast, BitVec.ofInt_natCast, BitVec.toNat_ofNat, BitVec.toNat_ofNat, Nat.mod_eq_of_lt (by omega : a < 2 ^ 64), Nat.mod_eq_of_lt (by omega : b < 2 ^ 64), IntKind.wrap_i64]
  omega

theorem digit_xor (x y k : Nat) : (x ^^^ y) / 2 ^ k % 65536 = (x / 2 ^ k % 65536) ^^^ (y / 2 ^ k % 65536) := by
  rw [← Nat.shiftRight_eq_div_pow, ← Nat.shiftRight_eq_div_pow, ← Nat.shiftRight_eq_div_pow, Nat.shiftRight_xor_distrib, show (65536 : Nat) = 2 ^ 16 by decide, Nat.xor_mod_two_pow]

/-- digit by digit -/
theorem xor_digits (x y : Int) (hx : 0 ≤ x ∧ x < 18446744073709551616) (hy : 0 ≤ y ∧ y < 18446744073709551616) :
    bits .xor .i64 (d0 x) (d0 y) = d0 (bits .xor .u64 x y) ∧ bits .xor .i64 (d1 x) (d1 y) = d1 (bits .xor .u64 x y) ∧
    bits .xor .i64 (d2 x) (d2 y) = d2 (bits .xor .u64 x y) ∧ bits .xor .i64 (d3 x) (d3 y) = d3 (bits .xor .u64 x y) := by
  obtain ⟨n, rfl⟩ := Int.eq_ofNat_of_zero_le hx.1
  obtain ⟨m, rfl⟩ := Int.eq_ofNat_of_zero_le hy.1
  have e := u64_xor_nat n m (by omega) (by omega)
  rw [e]
  have key : ∀ k : Nat, ∀ B : Int, B = ((2 ^ k : Nat) : Int) → bits .xor .i64 ((n : Int) / B % 65536) ((m : Int) / B % 65536) = (((n ^^^ m : Nat) : Int)) / B % 65536 := by
    intro k B hB
    subst hB
    have e1 : ∀ z : Nat, (z : Int) / ((2 ^ k : Nat) : Int) % 65536 = ((z / 2 ^ k % 65536 : Nat) : Int) := by intro z; rw [Int.natCast_emod, Int.natCast_ediv]; rfl
    rw [e1, e1, e1, i64_xor_nat _ _ (Nat.mod_lt _ (by omega)) (Nat.mod_lt _ (by omega)), digit_xor]
  have k0 := key 0 1 rfl
  have k1 := key 16 65536 (by decide)
  have k2 := key 32 4294967296 (by decide)
  have k3 := key 48 281474976710656 (by decide)
  simp only [Int.ediv_one] at k0
  exact ⟨k0, k1, k2, k3⟩

theorem xor_range (x y : Int) (hx : 0 ≤ x ∧ x < 18446744073709551616) (hy : 0 ≤ y ∧ y < 18446744073709551616) : 0 ≤ bits .xor .u64 x y ∧ bits .xor .u64 x y < 18446744073709551616 := by
  obtain ⟨n, rfl⟩ := Int.eq_ofNat_of_zero_le hx.1
  obtain ⟨m, rfl⟩ := Int.eq_ofNat_of_zero_le hy.1
  rw [u64_xor_nat n m (by omega) (by omega)]
  have : n ^^^ m < 2 ^ 64 := Nat.xor_lt_two_pow (by omega) (by omega)
  omega
end Go.Proofs.YthbcnieekpjhcaaDoor.Pu
