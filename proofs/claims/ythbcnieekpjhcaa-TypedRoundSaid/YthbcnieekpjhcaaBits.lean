/- Bits: what the law's own reading of a float's bits returns, for every word that is a number. -/
import Derived.Test.YthbcnieekpjhcaaFloatN
import Derived.Test.YthbcnieekpjhcaaCodec
import Derived.WalkLawsBesides
import Derived.Outline
set_option linter.unusedVariables false
set_option linter.unusedSimpArgs false
namespace Go.Proofs.Ythbcnieekpjhcaa.Fl
open Go.RowKit

theorem num_pos {r : Nat} (h : r ≤ 9218868437227405312) : isNum r ∧ r < 18446744073709551616 ∧ key r = r := by
  unfold isNum key; rw [if_pos (by omega)]; omega

theorem ord_lt {x c : Nat} (hx : x ≤ 9218868437227405312) (hc : c ≤ 9218868437227405312) (h : x < c) : FloatKind.f64.format.order x c = some .lt := by
  obtain ⟨a1, a2, a3⟩ := num_pos hx
  obtain ⟨b1, b2, b3⟩ := num_pos hc
  exact (order_key x c a2 b2 a1 b1).trans (by rw [a3, b3, Int.compare_eq_lt.2 (by omega)])
theorem ord_eq {x c : Nat} (hx : x ≤ 9218868437227405312) (hc : c ≤ 9218868437227405312) (h : x = c) : FloatKind.f64.format.order x c = some .eq := by
  obtain ⟨a1, a2, a3⟩ := num_pos hx
  obtain ⟨b1, b2, b3⟩ := num_pos hc
  exact (order_key x c a2 b2 a1 b1).trans (by rw [a3, b3, Int.compare_eq_eq.2 (by omega)])
theorem ord_gt {x c : Nat} (hx : x ≤ 9218868437227405312) (hc : c ≤ 9218868437227405312) (h : c < x) : FloatKind.f64.format.order x c = some .gt := by
  obtain ⟨a1, a2, a3⟩ := num_pos hx
  obtain ⟨b1, b2, b3⟩ := num_pos hc
  exact (order_key x c a2 b2 a1 b1).trans (by rw [a3, b3, Int.compare_eq_gt.2 (by omega)])

/-- v >= 2, as a test that is decided -/
theorem geq_two {x : Nat} (hx : x ≤ 9218868437227405312) :
    (FloatKind.f64.format.order x 4611686018427387904 == some .gt || FloatKind.f64.format.order x 4611686018427387904 == some .eq) = decide (4611686018427387904 ≤ x) := by
  rcases Nat.lt_trichotomy x 4611686018427387904 with h | h | h
  · rw [ord_lt hx (by omega) h, decide_eq_false (by omega)]; rfl
  · rw [ord_eq hx (by omega) h, decide_eq_true (by omega)]; rfl
  · rw [ord_gt hx (by omega) h, decide_eq_true (by omega)]; rfl

/-- v < 1 -/
theorem lss_one {x : Nat} (hx : x ≤ 9218868437227405312) : (FloatKind.f64.format.order x 4607182418800017408 == some .lt) = decide (x < 4607182418800017408) := by
  rcases Nat.lt_trichotomy x 4607182418800017408 with h | h | h
  · rw [ord_lt hx (by omega) h, decide_eq_true h]; rfl
  · rw [ord_eq hx (by omega) h, decide_eq_false (by omega)]; rfl
  · rw [ord_gt hx (by omega) h, decide_eq_false (by omega)]; rfl

/-- where the first loop stands -/
def Up (r x e : Nat) : Prop :=
  1023 ≤ e ∧ e ≤ 2047 ∧ ((r < 9218868437227405312 ∧ x + (e - 1023) * 4503599627370496 = r ∧ (e = 1023 ∨ 4607182418800017408 ≤ x)) ∨ (r = 9218868437227405312 ∧ x = r))
theorem Up.le {r x e : Nat} (h : Up r x e) : x ≤ 9218868437227405312 := by unfold Up at h; omega
theorem Up.start {r : Nat} (h : r ≤ 9218868437227405312) : Up r r 1023 := by unfold Up; omega
theorem Up.less {r x e : Nat} (h : Up r x e) (h2 : 4611686018427387904 ≤ x) (he : e < 2047) : ∃ y, floatBits .quo .f64 x 4611686018427387904 = some y ∧ Up r y (e + 1) := by
  unfold Up at h
  by_cases c : r = 9218868437227405312
  · have : x = 9218868437227405312 := by omega
    subst this
    exact ⟨_, half_inf, by unfold Up; omega⟩
  · exact ⟨_, half x (by omega) (by omega), by unfold Up; omega⟩

/-- where the second loop stands -/
def Down (r x e : Nat) : Prop :=
  1 ≤ e ∧ e ≤ 2046 ∧ 0 < x ∧ x < 4611686018427387904 ∧
  ((4503599627370496 ≤ r ∧ x + e * 4503599627370496 = r + 1023 * 4503599627370496 ∧ (e ≤ 1023 ∨ 4607182418800017408 ≤ x)) ∨ (r < 4503599627370496 ∧ e ≤ 1023 ∧ x < 4607182418800017408 ∧ val x = r * 2 ^ (1023 - e)))

theorem val_one (q : Nat) (hq : q = 1022) : val 4607182418800017408 = 4503599627370496 * 2 ^ q := by
  subst hq
  unfold val
  have := rung_of 1022 4503599627370496 (by omega) (.inr (by omega))
  rw [show (4607182418800017408 : Nat) = 1022 * 4503599627370496 + 4503599627370496 by omega, this.1, this.2]

theorem Down.start {r x e : Nat} (h0 : 0 < r) (h : Up r x e) (hx : x < 4611686018427387904 ∨ e = 2047) (he : e ≠ 2047) : Down r x e := by
  unfold Up at h
  unfold Down
  by_cases c : 4503599627370496 ≤ r
  · omega
  · have e1 : e = 1023 := by omega
    have e2 : x = r := by omega
    subst e1 e2
    refine ⟨by omega, by omega, h0, by omega, .inr ⟨by omega, by omega, by omega, ?_⟩⟩
    rw [val_small (by omega)]; simp

theorem Down.more {r x e : Nat} (h : Down r x e) (hx : x < 4607182418800017408) (he : 1 < e) : floatBits .mul .f64 x 4611686018427387904 = some (dbl x) ∧ Down r (dbl x) (e - 1) := by
  unfold Down at h
  obtain ⟨h1, h2, h3, h4, h5⟩ := h
  refine ⟨mul_two x h3 (by omega), ?_⟩
  unfold Down
  rcases h5 with ⟨a, b, b2⟩ | ⟨a, b, c, d⟩
  · have : dbl x = x + 4503599627370496 := by unfold dbl; rw [if_neg (by omega)]
    rw [this]; omega
  · have v : val (dbl x) = r * 2 ^ (1023 - (e - 1)) := by
      rw [val_dbl, d, show 1023 - (e - 1) = (1023 - e) + 1 by omega, Nat.pow_succ]
      rw [Nat.mul_comm (2 ^ (1023 - e)) 2, ← Nat.mul_assoc, ← Nat.mul_assoc, Nat.mul_comm r 2]
    have lt : dbl x < 4607182418800017408 := by
      obtain ⟨q, hq⟩ : ∃ q, q = 1022 := ⟨_, rfl⟩
      apply Nat.lt_of_not_le
      intro c2
      have m : val 4607182418800017408 ≤ val (dbl x) := by
        rcases Nat.lt_or_eq_of_le c2 with u | u
        · exact Nat.le_of_lt (val_lt u)
        · rw [← u]; exact Nat.le_refl _
      rw [v, val_one q hq] at m
      have p1 : r * 2 ^ (1023 - (e - 1)) < 4503599627370496 * 2 ^ (1023 - (e - 1)) := Nat.mul_lt_mul_of_pos_right a (Nat.two_pow_pos _)
      have p2 : 4503599627370496 * 2 ^ (1023 - (e - 1)) ≤ 4503599627370496 * 2 ^ q := Nat.mul_le_mul_left _ (Nat.pow_le_pow_right (by omega) (by omega))
      exact Nat.lt_irrefl _ (Nat.lt_of_le_of_lt (Nat.le_trans m (Nat.le_of_lt p1)) (Nat.lt_of_le_of_ne p2 (by
        intro q2; rw [q2] at p1; exact Nat.lt_irrefl _ (Nat.lt_of_le_of_lt m p1))))
    have pos : 0 < dbl x := by unfold dbl; split <;> omega
    exact ⟨by omega, by omega, pos, by omega, .inr ⟨a, by omega, lt, v⟩⟩

/-- behind the second loop, below one: too small for an exponent -/
theorem Down.small {r x e : Nat} (h0 : 0 < r) (h : Down r x e) (hx : x < 4607182418800017408) (he : ¬ 1 < e) : r < 4503599627370496 ∧ ∃ z, floatBits .mul .f64 x 4841369599423283200 = some z ∧ floatToIntVal .f64 z .u64 = some (r : Int) := by
  unfold Down at h
  obtain ⟨h1, h2, h3, h4, h5⟩ := h
  have e1 : e = 1 := by omega
  subst e1
  rcases h5 with ⟨a, b, b2⟩ | ⟨a, b, c, d⟩
  · omega
  · exact ⟨a, scaled x r (1023 - 1) (by omega) (by omega) h0 a d⟩
/-- .. at least one -/
theorem Down.large {r x e : Nat} (h : Down r x e) (hx : ¬ x < 4607182418800017408) : ∃ F y z, r = e * 4503599627370496 + F ∧ F < 4503599627370496 ∧ e ≤ 2046 ∧ floatBits .sub .f64 x 4607182418800017408 = some y ∧ floatBits .mul .f64 y 4841369599423283200 = some z ∧ floatToIntVal .f64 z .u64 = some (F : Int) := by
  unfold Down at h
  obtain ⟨h1, h2, h3, h4, h5⟩ := h
  rcases h5 with ⟨a, b, b2⟩ | ⟨a, b, c, d⟩
  · obtain ⟨F, hF⟩ : ∃ F, x = 4607182418800017408 + F := ⟨x - 4607182418800017408, by omega⟩
    subst hF
    obtain ⟨y, z, q1, q2, q3⟩ := minus_one F (by omega)
    exact ⟨F, y, z, by omega, by omega, by omega, q1, q2, q3⟩
  · omega
end Go.Proofs.Ythbcnieekpjhcaa.Fl
