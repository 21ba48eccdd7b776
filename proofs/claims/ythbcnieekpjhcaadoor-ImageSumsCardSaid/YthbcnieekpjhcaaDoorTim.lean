/- The reference's times: as one does on paper. -/
import Derived.Test.YthbcnieekpjhcaaDoorXor
set_option linter.unusedVariables false
set_option linter.unusedSimpArgs false
namespace Go.Proofs.YthbcnieekpjhcaaDoor.Wk
open Go Go.RowKit

/-- the digits' products that have been added, s of ten -/
def Mul (x y : Int) (s : Nat) : Int :=
  match s with
  | 0 => 0
  | 1 => Pu.d0 x * Pu.d0 y * 1
  | 2 => Pu.d0 x * Pu.d0 y * 1 + Pu.d0 x * Pu.d1 y * 65536
  | 3 => Pu.d0 x * Pu.d0 y * 1 + Pu.d0 x * Pu.d1 y * 65536 + Pu.d0 x * Pu.d2 y * 4294967296
  | 4 => Pu.d0 x * Pu.d0 y * 1 + Pu.d0 x * Pu.d1 y * 65536 + Pu.d0 x * Pu.d2 y * 4294967296 + Pu.d0 x * Pu.d3 y * 281474976710656
  | 5 => Pu.d0 x * Pu.d0 y * 1 + Pu.d0 x * Pu.d1 y * 65536 + Pu.d0 x * Pu.d2 y * 4294967296 + Pu.d0 x * Pu.d3 y * 281474976710656 + Pu.d1 x * Pu.d0 y * 65536
  | 6 => Pu.d0 x * Pu.d0 y * 1 + Pu.d0 x * Pu.d1 y * 65536 + Pu.d0 x * Pu.d2 y * 4294967296 + Pu.d0 x * Pu.d3 y * 281474976710656 + Pu.d1 x * Pu.d0 y * 65536 + Pu.d1 x * Pu.d1 y * 4294967296
  | 7 => Pu.d0 x * Pu.d0 y * 1 + Pu.d0 x * Pu.d1 y * 65536 + Pu.d0 x * Pu.d2 y * 4294967296 + Pu.d0 x * Pu.d3 y * 281474976710656 + Pu.d1 x * Pu.d0 y * 65536 + Pu.d1 x * Pu.d1 y * 4294967296 + Pu.d1 x * Pu.d2 y * 281474976710656
  | 8 => Pu.d0 x * Pu.d0 y * 1 + Pu.d0 x * Pu.d1 y * 65536 + Pu.d0 x * Pu.d2 y * 4294967296 + Pu.d0 x * Pu.d3 y * 281474976710656 + Pu.d1 x * Pu.d0 y * 65536 + Pu.d1 x * Pu.d1 y * 4294967296 + Pu.d1 x * Pu.d2 y * 281474976710656 + Pu.d2 x * Pu.d0 y * 4294967296
  | 9 => Pu.d0 x * Pu.d0 y * 1 + Pu.d0 x * Pu.d1 y * 65536 + Pu.d0 x * Pu.d2 y * 4294967296 + Pu.d0 x * Pu.d3 y * 281474976710656 + Pu.d1 x * Pu.d0 y * 65536 + Pu.d1 x * Pu.d1 y * 4294967296 + Pu.d1 x * Pu.d2 y * 281474976710656 + Pu.d2 x * Pu.d0 y * 4294967296 + Pu.d2 x * Pu.d1 y * 281474976710656
  | _ => Pu.d0 x * Pu.d0 y * 1 + Pu.d0 x * Pu.d1 y * 65536 + Pu.d0 x * Pu.d2 y * 4294967296 + Pu.d0 x * Pu.d3 y * 281474976710656 + Pu.d1 x * Pu.d0 y * 65536 + Pu.d1 x * Pu.d1 y * 4294967296 + Pu.d1 x * Pu.d2 y * 281474976710656 + Pu.d2 x * Pu.d0 y * 4294967296 + Pu.d2 x * Pu.d1 y * 281474976710656 + Pu.d3 x * Pu.d0 y * 281474976710656

structure Sum4 (x y : Int) (s : Nat) (P carry c0 c1 c2 c3 : Int) : Prop where
  eq : ∃ q : Int, c0 + c1 * 65536 + c2 * 4294967296 + c3 * 281474976710656 + carry * P + q * 18446744073709551616 = Mul x y s
  rc : 0 ≤ carry ∧ carry < 65536
  r0 : 0 ≤ c0 ∧ c0 < 65536
  r1 : 0 ≤ c1 ∧ c1 < 65536
  r2 : 0 ≤ c2 ∧ c2 < 65536
  r3 : 0 ≤ c3 ∧ c3 < 65536

theorem prod_range (a b : Int) (ha : 0 ≤ a ∧ a < 65536) (hb : 0 ≤ b ∧ b < 65536) : 0 ≤ a * b ∧ a * b ≤ 4294836225 := by
  refine ⟨Int.mul_nonneg ha.1 hb.1, ?_⟩
  have h1 : a * b ≤ 65535 * b := Int.mul_le_mul_of_nonneg_right (by omega) hb.1
  have h2 : (65535 : Int) * b ≤ 65535 * 65535 := Int.mul_le_mul_of_nonneg_left (by omega) (by omega)
  omega

theorem carry_range (c p t : Int) (hc : 0 ≤ c ∧ c < 65536) (hp : 0 ≤ p ∧ p ≤ 4294836225) (ht : 0 ≤ t ∧ t < 65536) : 0 ≤ (c + p + t) / 65536 ∧ (c + p + t) / 65536 < 65536 := by omega
theorem low_range (t : Int) : 0 ≤ t % 65536 ∧ t % 65536 < 65536 := by omega

theorem Sum4.s0 {x y carry c0 c1 c2 c3 : Int} (h : Sum4 x y 0 1 carry c0 c1 c2 c3) : Sum4 x y 1 65536 ((c0 + Pu.d0 x * Pu.d0 y + carry) / 65536) ((c0 + Pu.d0 x * Pu.d0 y + carry) % 65536) c1 c2 c3 := by
  have hd := Pu.d_range x
  have he := Pu.d_range y
  have hp := prod_range (Pu.d0 x) (Pu.d0 y) (by omega) (by omega)
  obtain ⟨⟨q, hq⟩, rc, r0, r1, r2, r3⟩ := h
  refine ⟨⟨q, ?_⟩, carry_range _ _ _ r0 hp rc, low_range _, r1, r2, r3⟩
  simp only [Mul] at hq ⊢
  generalize Pu.d0 x * Pu.d0 y = p at *
  omega

theorem Sum4.s1 {x y carry c0 c1 c2 c3 : Int} (h : Sum4 x y 1 65536 carry c0 c1 c2 c3) : Sum4 x y 2 4294967296 ((c1 + Pu.d0 x * Pu.d1 y + carry) / 65536) c0 ((c1 + Pu.d0 x * Pu.d1 y + carry) % 65536) c2 c3 := by
  have hd := Pu.d_range x
  have he := Pu.d_range y
  have hp := prod_range (Pu.d0 x) (Pu.d1 y) (by omega) (by omega)
  obtain ⟨⟨q, hq⟩, rc, r0, r1, r2, r3⟩ := h
  refine ⟨⟨q, ?_⟩, carry_range _ _ _ r1 hp rc, r0, low_range _, r2, r3⟩
  simp only [Mul] at hq ⊢
  generalize Pu.d0 x * Pu.d1 y = p at *
  omega

theorem Sum4.s2 {x y carry c0 c1 c2 c3 : Int} (h : Sum4 x y 2 4294967296 carry c0 c1 c2 c3) : Sum4 x y 3 281474976710656 ((c2 + Pu.d0 x * Pu.d2 y + carry) / 65536) c0 c1 ((c2 + Pu.d0 x * Pu.d2 y + carry) % 65536) c3 := by
  have hd := Pu.d_range x
  have he := Pu.d_range y
  have hp := prod_range (Pu.d0 x) (Pu.d2 y) (by omega) (by omega)
  obtain ⟨⟨q, hq⟩, rc, r0, r1, r2, r3⟩ := h
  refine ⟨⟨q, ?_⟩, carry_range _ _ _ r2 hp rc, r0, r1, low_range _, r3⟩
  simp only [Mul] at hq ⊢
  generalize Pu.d0 x * Pu.d2 y = p at *
  omega

theorem Sum4.s3 {x y carry c0 c1 c2 c3 : Int} (h : Sum4 x y 3 281474976710656 carry c0 c1 c2 c3) : Sum4 x y 4 18446744073709551616 ((c3 + Pu.d0 x * Pu.d3 y + carry) / 65536) c0 c1 c2 ((c3 + Pu.d0 x * Pu.d3 y + carry) % 65536) := by
  have hd := Pu.d_range x
  have he := Pu.d_range y
  have hp := prod_range (Pu.d0 x) (Pu.d3 y) (by omega) (by omega)
  obtain ⟨⟨q, hq⟩, rc, r0, r1, r2, r3⟩ := h
  refine ⟨⟨q, ?_⟩, carry_range _ _ _ r3 hp rc, r0, r1, r2, low_range _⟩
  simp only [Mul] at hq ⊢
  generalize Pu.d0 x * Pu.d3 y = p at *
  omega

theorem Sum4.s4 {x y carry c0 c1 c2 c3 : Int} (h : Sum4 x y 4 65536 carry c0 c1 c2 c3) : Sum4 x y 5 4294967296 ((c1 + Pu.d1 x * Pu.d0 y + carry) / 65536) c0 ((c1 + Pu.d1 x * Pu.d0 y + carry) % 65536) c2 c3 := by
  have hd := Pu.d_range x
  have he := Pu.d_range y
  have hp := prod_range (Pu.d1 x) (Pu.d0 y) (by omega) (by omega)
  obtain ⟨⟨q, hq⟩, rc, r0, r1, r2, r3⟩ := h
  refine ⟨⟨q, ?_⟩, carry_range _ _ _ r1 hp rc, r0, low_range _, r2, r3⟩
  simp only [Mul] at hq ⊢
  generalize Pu.d1 x * Pu.d0 y = p at *
  omega

theorem Sum4.s5 {x y carry c0 c1 c2 c3 : Int} (h : Sum4 x y 5 4294967296 carry c0 c1 c2 c3) : Sum4 x y 6 281474976710656 ((c2 + Pu.d1 x * Pu.d1 y + carry) / 65536) c0 c1 ((c2 + Pu.d1 x * Pu.d1 y + carry) % 65536) c3 := by
  have hd := Pu.d_range x
  have he := Pu.d_range y
  have hp := prod_range (Pu.d1 x) (Pu.d1 y) (by omega) (by omega)
  obtain ⟨⟨q, hq⟩, rc, r0, r1, r2, r3⟩ := h
  refine ⟨⟨q, ?_⟩, carry_range _ _ _ r2 hp rc, r0, r1, low_range _, r3⟩
  simp only [Mul] at hq ⊢
  generalize Pu.d1 x * Pu.d1 y = p at *
  omega

theorem Sum4.s6 {x y carry c0 c1 c2 c3 : Int} (h : Sum4 x y 6 281474976710656 carry c0 c1 c2 c3) : Sum4 x y 7 18446744073709551616 ((c3 + Pu.d1 x * Pu.d2 y + carry) / 65536) c0 c1 c2 ((c3 + Pu.d1 x * Pu.d2 y + carry) % 65536) := by
  have hd := Pu.d_range x
  have he := Pu.d_range y
  have hp := prod_range (Pu.d1 x) (Pu.d2 y) (by omega) (by omega)
  obtain ⟨⟨q, hq⟩, rc, r0, r1, r2, r3⟩ := h
  refine ⟨⟨q, ?_⟩, carry_range _ _ _ r3 hp rc, r0, r1, r2, low_range _⟩
  simp only [Mul] at hq ⊢
  generalize Pu.d1 x * Pu.d2 y = p at *
  omega

theorem Sum4.s7 {x y carry c0 c1 c2 c3 : Int} (h : Sum4 x y 7 4294967296 carry c0 c1 c2 c3) : Sum4 x y 8 281474976710656 ((c2 + Pu.d2 x * Pu.d0 y + carry) / 65536) c0 c1 ((c2 + Pu.d2 x * Pu.d0 y + carry) % 65536) c3 := by
  have hd := Pu.d_range x
  have he := Pu.d_range y
  have hp := prod_range (Pu.d2 x) (Pu.d0 y) (by omega) (by omega)
  obtain ⟨⟨q, hq⟩, rc, r0, r1, r2, r3⟩ := h
  refine ⟨⟨q, ?_⟩, carry_range _ _ _ r2 hp rc, r0, r1, low_range _, r3⟩
  simp only [Mul] at hq ⊢
  generalize Pu.d2 x * Pu.d0 y = p at *
  omega

theorem Sum4.s8 {x y carry c0 c1 c2 c3 : Int} (h : Sum4 x y 8 281474976710656 carry c0 c1 c2 c3) : Sum4 x y 9 18446744073709551616 ((c3 + Pu.d2 x * Pu.d1 y + carry) / 65536) c0 c1 c2 ((c3 + Pu.d2 x * Pu.d1 y + carry) % 65536) := by
  have hd := Pu.d_range x
  have he := Pu.d_range y
  have hp := prod_range (Pu.d2 x) (Pu.d1 y) (by omega) (by omega)
  obtain ⟨⟨q, hq⟩, rc, r0, r1, r2, r3⟩ := h
  refine ⟨⟨q, ?_⟩, carry_range _ _ _ r3 hp rc, r0, r1, r2, low_range _⟩
  simp only [Mul] at hq ⊢
  generalize Pu.d2 x * Pu.d1 y = p at *
  omega

theorem Sum4.s9 {x y carry c0 c1 c2 c3 : Int} (h : Sum4 x y 9 281474976710656 carry c0 c1 c2 c3) : Sum4 x y 10 18446744073709551616 ((c3 + Pu.d3 x * Pu.d0 y + carry) / 65536) c0 c1 c2 ((c3 + Pu.d3 x * Pu.d0 y + carry) % 65536) := by
  have hd := Pu.d_range x
  have he := Pu.d_range y
  have hp := prod_range (Pu.d3 x) (Pu.d0 y) (by omega) (by omega)
  obtain ⟨⟨q, hq⟩, rc, r0, r1, r2, r3⟩ := h
  refine ⟨⟨q, ?_⟩, carry_range _ _ _ r3 hp rc, r0, r1, r2, low_range _⟩
  simp only [Mul] at hq ⊢
  generalize Pu.d3 x * Pu.d0 y = p at *
  omega

/-- a row is done: what is carried beyond the fourth digit is dropped -/
theorem Sum4.drop {x y carry c0 c1 c2 c3 : Int} {s : Nat} (h : Sum4 x y s 18446744073709551616 carry c0 c1 c2 c3) (P : Int) : Sum4 x y s P 0 c0 c1 c2 c3 := by
  obtain ⟨⟨q, hq⟩, rc, r0, r1, r2, r3⟩ := h
  exact ⟨⟨q + carry, by omega⟩, by omega, r0, r1, r2, r3⟩
theorem Sum4.at {x y c0 c1 c2 c3 P : Int} {s : Nat} (h : Sum4 x y s P 0 c0 c1 c2 c3) (P' : Int) : Sum4 x y s P' 0 c0 c1 c2 c3 := by
  obtain ⟨⟨q, hq⟩, rc, r0, r1, r2, r3⟩ := h
  exact ⟨⟨q, by omega⟩, rc, r0, r1, r2, r3⟩

theorem expand (a0 a1 a2 a3 b0 b1 b2 b3 : Int) : (a0 + a1 * 65536 + a2 * 4294967296 + a3 * 281474976710656) * (b0 + b1 * 65536 + b2 * 4294967296 + b3 * 281474976710656) =
    (a0 * b0 + (a0 * b1 + a1 * b0) * 65536 + (a0 * b2 + a1 * b1 + a2 * b0) * 4294967296 + (a0 * b3 + a1 * b2 + a2 * b1 + a3 * b0) * 281474976710656) +
    (a1 * b3 + a2 * b2 + a3 * b1 + (a2 * b3 + a3 * b2) * 65536 + a3 * b3 * 4294967296) * 18446744073709551616 := by grind

theorem Sum4.out {x y c0 c1 c2 c3 P : Int} (hx : 0 ≤ x ∧ x < 18446744073709551616) (hy : 0 ≤ y ∧ y < 18446744073709551616) (h : Sum4 x y 10 P 0 c0 c1 c2 c3) :
    c0 = Pu.d0 (x * y % 18446744073709551616) ∧ c1 = Pu.d1 (x * y % 18446744073709551616) ∧ c2 = Pu.d2 (x * y % 18446744073709551616) ∧ c3 = Pu.d3 (x * y % 18446744073709551616) := by
  obtain ⟨⟨q, hq⟩, rc, r0, r1, r2, r3⟩ := h
  have e := expand (Pu.d0 x) (Pu.d1 x) (Pu.d2 x) (Pu.d3 x) (Pu.d0 y) (Pu.d1 y) (Pu.d2 y) (Pu.d3 y)
  rw [Pu.d_sum x hx.1 hx.2, Pu.d_sum y hy.1 hy.2] at e
  simp only [Mul] at hq
  refine Pu.d_uniq _ _ _ _ _ r0 r1 r2 r3 ?_
  generalize x * y = z at *
  omega
end Go.Proofs.YthbcnieekpjhcaaDoor.Wk
