/- What doubling, halving and the last steps of Bits come to, on words of double precision. -/
import Derived.Test.YthbcnieekpjhcaaFloatM
set_option linter.unusedVariables false
namespace Go.Proofs.Ythbcnieekpjhcaa.Fl
open Ieee

theorem log2_mul_pow (M k : Nat) (h : 0 < M) : (M * 2 ^ k).log2 = M.log2 + k := by
  induction k with
  | zero => simp
  | succ k ih =>
    have : M * 2 ^ (k + 1) = 2 * (M * 2 ^ k) := by rw [Nat.pow_succ]; rw [Nat.mul_comm 2, Nat.mul_assoc]
    rw [this, Nat.log2_two_mul (by have := Nat.two_pow_pos k; exact Nat.ne_of_gt (Nat.mul_pos h this)), ih]; rfl

theorem cut_exact (neg : Bool) (n b : Nat) (h : b ≤ n.log2 + 2) (hd : n % 2 ^ b = 0) : Toward.even.cut neg n b = n / 2 ^ b := by
  unfold Toward.cut
  have e : min b (n.log2 + 2) = b := Nat.min_eq_left h
  have p : 0 < 2 ^ b := Nat.two_pow_pos b
  simp only [e, Nat.one_shiftLeft, hd]
  have : decide (2 ^ b < 2 * 0) = false := by simp
  have h2 : ((2 ^ b == 2 * 0) : Bool) = false := by simp
  rw [this, h2]; simp

/-- A dyadic number of at most 53 digits is written exactly. -/
theorem nearest_exact (neg : Bool) (M k : Nat) (s last : Int) (hM : 0 < M) (hl : M.log2 ≤ 52) (hs : -1074 ≤ s) (hb : s + M.log2 ≤ 1023) (hlast : last = max (s + M.log2 - 52) (-1074)) :
    double.nearest neg (M * 2 ^ k) (s - k) = double.word neg ((last + 1074).toNat * 4503599627370496 + M * 2 ^ (s - last).toNat) := by
  have p : 0 < M * 2 ^ k := Nat.mul_pos hM (Nat.two_pow_pos k)
  have hls : last ≤ s := by omega
  have fb : double.fractionBits = 52 := rfl
  unfold Format.nearest
  rw [if_neg (by omega)]
  simp only [lp, bn, ir, fb, log2_mul_pow M k hM]
  have e0 : max (s - (k : Int) + ((M.log2 + k : Nat) : Int) - ((52 : Nat) : Int)) (-1074) = last := by rw [hlast]; push_cast; omega
  rw [e0]
  have kept : Toward.even.cut neg ((M * 2 ^ k) <<< (s - k - last).toNat) (last - (s - k)).toNat = M * 2 ^ (s - last).toNat := by
    by_cases c : last ≤ s - k
    · have e1 : (last - (s - k)).toNat = 0 := by omega
      rw [e1, cut_exact _ _ _ (by omega) (by simp [Nat.mod_one]), Nat.shiftLeft_eq, Nat.pow_zero, Nat.div_one, Nat.mul_assoc, ← Nat.pow_add]
      congr 2; omega
    · have e1 : (s - k - last).toNat = 0 := by omega
      have e2 : k = (s - last).toNat + (last - (s - k)).toNat := by omega
      rw [e1, Nat.shiftLeft_zero]
      generalize (last - (s - k)).toNat = b at *
      generalize (s - last).toNat = a at *
      subst e2
      have e3 : M * 2 ^ (a + b) = M * 2 ^ a * 2 ^ b := by rw [Nat.pow_add, Nat.mul_assoc]
      rw [cut_exact]
      · rw [e3, Nat.mul_div_cancel _ (Nat.two_pow_pos b)]
      · rw [log2_mul_pow _ _ hM]; omega
      · rw [e3, Nat.mul_mod_left]
  rw [kept]
  congr 1
  refine Nat.min_eq_left ?_
  have small : M * 2 ^ (s - last).toNat < 9007199254740992 := by
    have a1 : M < 2 ^ (M.log2 + 1) := Nat.lt_log2_self
    have a2 : M * 2 ^ (s - last).toNat < 2 ^ (M.log2 + 1) * 2 ^ (s - last).toNat := Nat.mul_lt_mul_of_pos_right a1 (Nat.two_pow_pos _)
    rw [← Nat.pow_add] at a2
    have a3 : 2 ^ (M.log2 + 1 + (s - last).toNat) ≤ 2 ^ 53 := Nat.pow_le_pow_right (by omega) (by omega)
    omega
  have : (last + 1074).toNat ≤ 2045 := by omega
  omega

theorem log2_norm {m : Nat} (h0 : 4503599627370496 ≤ m) (h1 : m < 9007199254740992) : m.log2 = 52 := by
  have a : 52 ≤ m.log2 := (Nat.le_log2 (by omega)).2 (by omega)
  have b : m.log2 < 53 := (Nat.log2_lt (by omega)).2 (by omega)
  omega
theorem log2_sub {m : Nat} (h0 : 0 < m) (h1 : m < 4503599627370496) : m.log2 ≤ 51 := by
  have b : m.log2 < 52 := (Nat.log2_lt (by omega)).2 (by omega)
  omega
theorem mag_norm {r : Nat} (h : 4503599627370496 ≤ r) : magOf r = 4503599627370496 + r % 4503599627370496 := by unfold magOf; rw [if_neg (by omega)]
theorem mag_log {r : Nat} (h : 4503599627370496 ≤ r) : (magOf r).log2 = 52 := by rw [mag_norm h]; exact log2_norm (by omega) (by omega)

theorem two_read : double.read 4611686018427387904 = .number false 4503599627370496 (-51) := by decide
theorem one_read : double.read 4607182418800017408 = .number false 4503599627370496 (-52) := by decide
theorem c52_read : double.read 4841369599423283200 = .number false 4503599627370496 0 := by decide

theorem word_pos (r : Nat) : double.word false r = r := by unfold Format.word; rw [if_neg (by decide)]
theorem two52 : (4503599627370496 : Nat) = 2 ^ 52 := by decide
theorem product_num (m n : Nat) (i j : Int) : Datum.product (.number false m i) (.number false n j) = some (.number false (m * n) (i + j)) := rfl
theorem write_num (s : Bool) (m : Nat) (p : Int) : double.write (.number s m p) = double.nearest s m p := rfl

/-- v / 2, of a number with an exponent of at least 2. -/
theorem half (r : Nat) (h0 : 9007199254740992 ≤ r) (h1 : r < 9218868437227405312) : double.div r 4611686018427387904 = some (r - 4503599627370496) := by
  have hl := mag_log (r := r) (by omega)
  have hp := mag_norm (r := r) (by omega)
  have hm : magOf r ≠ 0 := by omega
  unfold Format.div
  rw [read_pos h1, two_read]
  have q : (Datum.number false (magOf r) (-1074 + (plOf r : Nat))).quotient (double.fractionBits + 2) (.number false 4503599627370496 (-51)) = some (.number false (magOf r * 2 ^ 3) (-1074 + (plOf r : Nat) - 1 - 3)) := by
    have e2 : (4503599627370496 : Nat).log2 = 52 := log2_norm (by omega) (by omega)
    have fb : double.fractionBits = 52 := rfl
    simp only [Datum.quotient, hl, e2, fb]
    rw [if_neg (by omega)]
    have e3 : magOf r <<< (52 + 2 + 52 - 52) = magOf r * 4 * 4503599627370496 := by rw [Nat.shiftLeft_eq]; omega
    rw [e3, Nat.mul_div_cancel _ (by omega), Nat.mul_mod_left]
    have e4 : 2 * (magOf r * 4) = magOf r * 2 ^ 3 := by omega
    have e5 : (-1074 + (plOf r : Int) - -51 - ((52 + 2 + 52 - 52 : Nat) : Int) - 1) = -1074 + (plOf r : Nat) - 1 - 3 := by omega
    simp only [bne_self_eq_false, Bool.toNat_false, Nat.add_zero]
    rw [e4, e5]
  rw [q, Option.map_some, write_num]
  have e6 : (-1074 + (plOf r : Int) - 1 - 3) = -1074 + (plOf r : Int) - 1 - ((3 : Nat) : Int) := by omega
  rw [e6]
  have hpl : plOf r = r / 4503599627370496 - 1 := rfl
  rw [nearest_exact false (magOf r) 3 (-1074 + (plOf r : Nat) - 1) (-1074 + (plOf r : Nat) - 1) (by omega) (by omega) (by omega) (by omega) (by omega)]
  rw [show (-1074 + (plOf r : Int) - 1 - (-1074 + (plOf r : Int) - 1)).toNat = 0 by omega, Nat.pow_zero, Nat.mul_one, word_pos]
  have e7 : (-1074 + (plOf r : Int) - 1 + 1074).toNat * 4503599627370496 + magOf r = r - 4503599627370496 := by omega
  rw [e7]

/-- infinity / 2 -/
theorem half_inf : double.div 9218868437227405312 4611686018427387904 = some 9218868437227405312 := by decide

/-- what doubling does to a rung -/
def dbl (r : Nat) : Nat := if r < 4503599627370496 then 2 * r else r + 4503599627370496

theorem mul_two (r : Nat) (h0 : 0 < r) (h1 : r < 9214364837600034816) : double.mul r 4611686018427387904 = some (dbl r) := by
  unfold Format.mul
  rw [read_pos (by omega), two_read]
  rw [product_num, Option.map_some, write_num]
  congr 1
  have e : magOf r * 4503599627370496 = magOf r * 2 ^ 52 := congrArg (magOf r * ·) two52
  have e2 : (-1074 + (plOf r : Int) + -51) = (-1074 + (plOf r : Int) + 1) - (52 : Nat) := by omega
  have hpl : plOf r = r / 4503599627370496 - 1 := rfl
  rw [e, e2]
  clear e e2
  unfold dbl
  by_cases c : r < 4503599627370496
  · have hm : magOf r = r := by unfold magOf; rw [if_pos c]
    have hp : plOf r = 0 := by omega
    have hl := log2_sub h0 c
    rw [if_pos c, hm, hp, nearest_exact _ r 52 _ (-1074) h0 (by omega) (by omega) (by omega) (by omega)]
    have e7 : (-1074 + 1074 : Int).toNat * 4503599627370496 + r * 2 ^ (-1074 + ((0 : Nat) : Int) + 1 - -1074).toNat = 2 * r := by
      rw [show (-1074 + ((0 : Nat) : Int) + 1 - -1074).toNat = 1 by omega]; omega
    rw [word_pos, e7]
  · have hl := mag_log (r := r) (by omega)
    have hp := mag_norm (r := r) (by omega)
    rw [if_neg c, nearest_exact _ (magOf r) 52 _ (-1074 + (plOf r : Nat) + 1) (by omega) (by omega) (by omega) (by omega) (by omega)]
    rw [show (-1074 + (plOf r : Int) + 1 - (-1074 + (plOf r : Int) + 1)).toNat = 0 by omega, Nat.pow_zero, Nat.mul_one, word_pos]
    have e7 : (-1074 + (plOf r : Int) + 1 + 1074).toNat * 4503599627370496 + magOf r = r + 4503599627370496 := by omega
    rw [e7]

theorem rung_of (a m : Nat) (h : m < 9007199254740992) (h2 : a = 0 ∨ 4503599627370496 ≤ m) : magOf (a * 4503599627370496 + m) = m ∧ plOf (a * 4503599627370496 + m) = a := by
  unfold magOf plOf
  rcases h2 with rfl | h2
  · by_cases c : m < 4503599627370496
    · rw [if_pos (by omega)]; omega
    · rw [if_neg (by omega)]; omega
  · rw [if_neg (by omega)]; omega

theorem val_dbl (r : Nat) : val (dbl r) = 2 * val r := by
  unfold dbl
  by_cases c : r < 4503599627370496
  · rw [if_pos c]
    have := rung_of 0 (2 * r) (by omega) (.inl rfl)
    rw [Nat.zero_mul, Nat.zero_add] at this
    unfold val
    rw [this.1, this.2]
    have h := val_small c
    unfold val at h
    rw [h]; simp
  · rw [if_neg c]
    unfold val magOf plOf
    rw [if_neg (by omega), if_neg c]
    have e : (r + 4503599627370496) % 4503599627370496 = r % 4503599627370496 := by omega
    have e2 : (r + 4503599627370496) / 4503599627370496 - 1 = (r / 4503599627370496 - 1) + 1 := by omega
    rw [e, e2, Nat.pow_succ, ← Nat.mul_assoc, Nat.mul_comm _ 2]

theorem norm_big (M : Nat) (h0 : 0 < M) (hl : M.log2 ≤ 52) : 4503599627370496 ≤ M * 2 ^ (52 - M.log2) ∧ M * 2 ^ (52 - M.log2) < 9007199254740992 := by
  have l := log2_mul_pow M (52 - M.log2) h0
  have e : M.log2 + (52 - M.log2) = 52 := by omega
  rw [e] at l
  have ne : M * 2 ^ (52 - M.log2) ≠ 0 := Nat.ne_of_gt (Nat.mul_pos h0 (Nat.two_pow_pos _))
  have a := Nat.log2_self_le ne
  have b := @Nat.lt_log2_self (M * 2 ^ (52 - M.log2))
  rw [l] at a b
  exact ⟨by omega, by omega⟩

theorem toInt_whole (N a : Nat) (p : Int) (hN : 0 < N) (hp : p = -(a : Int)) : (Datum.number false (N * 2 ^ a) p).toInt .zero = some (N : Int) := by
  subst hp
  unfold Datum.toInt Datum.integral
  have e1 : (-(a : Int)).toNat = 0 := by omega
  have e2 : (-(-(a : Int))).toNat = a := by omega
  have l := log2_mul_pow N a hN
  have mn : min a ((N * 2 ^ a).log2 + 2) = a := Nat.min_eq_left (by omega)
  have cut : Toward.zero.cut false (N * 2 ^ a) a = N := by
    unfold Toward.cut
    simp only [mn, Nat.one_shiftLeft, Bool.toNat_false, Nat.add_zero]
    exact Nat.mul_div_cancel _ (Nat.two_pow_pos _)
  simp only [e1, e2, Nat.shiftLeft_zero, cut]
  simp [signed]

theorem floatToInt_of (z : Nat) (N : Nat) (d : Datum) (hd : double.read z = d) (ht : d.toInt .zero = some (N : Int)) (hN : N < 18446744073709551616) : floatToIntVal .f64 z .u64 = some (N : Int) := by
  have m1 : IntKind.u64.min = 0 := rfl
  have m2 : IntKind.u64.max = 18446744073709551615 := rfl
  unfold floatToIntVal FloatKind.decode FloatKind.format
  simp only [hd, ht, m1, m2]
  rw [if_pos (by omega)]

theorem mul_c52 (r : Nat) (hr : r < 9218868437227405312) (h0 : 0 < r) (last : Int) (hlast : last = max (-1022 + (plOf r : Int) + (magOf r).log2 - 52) (-1074)) (hl : (magOf r).log2 ≤ 52) (hb : (magOf r).log2 + plOf r ≤ 2000) :
    double.mul r 4841369599423283200 = some ((last + 1074).toNat * 4503599627370496 + magOf r * 2 ^ (-1022 + (plOf r : Int) - last).toNat) := by
  have hm0 : 0 < magOf r := by unfold magOf; split <;> omega
  unfold Format.mul
  rw [read_pos hr, c52_read, product_num, Option.map_some, write_num]
  have e2 : (-1074 + (plOf r : Int) + 0) = (-1022 + (plOf r : Int)) - (52 : Nat) := by omega
  have e : magOf r * 4503599627370496 = magOf r * 2 ^ 52 := congrArg (magOf r * ·) two52
  rw [e2, e]
  clear e e2
  rw [nearest_exact _ (magOf r) 52 _ last hm0 hl (by omega) (by omega) hlast, word_pos]

/-- x * 2^52, as a whole number: of what is worth N * 2^-52. -/
theorem scaled (r N q : Nat) (hq : q = 1022) (hr : r < 9218868437227405312) (hN : 0 < N) (hN2 : N < 4503599627370496) (hv : val r = N * 2 ^ q) :
    ∃ z, double.mul r 4841369599423283200 = some z ∧ floatToIntVal .f64 z .u64 = some (N : Int) := by
  have h0 : 0 < r := by
    rcases Nat.eq_zero_or_pos r with e | e
    · subst e
      rw [val_zero] at hv
      have := Nat.mul_pos hN (Nat.two_pow_pos q); omega
    · exact e
  have hm0 : 0 < magOf r := by unfold magOf; split <;> omega
  have hm1 : magOf r < 9007199254740992 := by unfold magOf; split <;> omega
  have hl : (magOf r).log2 ≤ 52 := by have := (Nat.log2_lt (n := magOf r) (k := 53) (by omega)).2 (by omega); omega
  -- the value's digits
  have hlog : (magOf r).log2 + plOf r = N.log2 + 1022 := by
    have a := log2_mul_pow (magOf r) (plOf r) hm0
    have b := log2_mul_pow N q hN
    unfold val at hv
    rw [hv, b] at a
    omega
  have hNl : N.log2 ≤ 51 := log2_sub hN hN2
  have hz := mul_c52 r hr h0 ((N.log2 : Int) - 52) (by omega) hl (by omega)
  have ea : ((N.log2 : Int) - 52 + 1074).toNat = N.log2 + 1022 := by omega
  have es : (-1022 + (plOf r : Int) - ((N.log2 : Int) - 52)).toNat = 52 - (magOf r).log2 := by omega
  rw [ea, es] at hz
  have big := norm_big (magOf r) hm0 hl
  have rg := rung_of (N.log2 + 1022) _ big.2 (.inr big.1)
  have rd := read_pos (r := (N.log2 + 1022) * 4503599627370496 + magOf r * 2 ^ (52 - (magOf r).log2)) (by omega)
  rw [rg.1, rg.2] at rd
  -- exact: M' * 2^(last) = N
  have exact_ : magOf r * 2 ^ (52 - (magOf r).log2) = N * 2 ^ (52 - N.log2) := by
    have c : magOf r * 2 ^ (52 - (magOf r).log2) * 2 ^ (N.log2 + 970) = N * 2 ^ (52 - N.log2) * 2 ^ (N.log2 + 970) := by
      rw [Nat.mul_assoc, Nat.mul_assoc, ← Nat.pow_add, ← Nat.pow_add]
      rw [show 52 - (magOf r).log2 + (N.log2 + 970) = plOf r by omega, show 52 - N.log2 + (N.log2 + 970) = q by omega]
      exact hv
    exact Nat.eq_of_mul_eq_mul_right (Nat.two_pow_pos _) c
  have ti := toInt_whole N (52 - N.log2) (-1074 + ((N.log2 + 1022 : Nat) : Int)) hN (by omega)
  rw [← exact_] at ti
  exact ⟨_, hz, floatToInt_of _ N _ rd ti (by omega)⟩

/-- (v - 1) * 2^52 for v in [1, 2): the fraction. -/
theorem minus_one (F : Nat) (hF : F < 4503599627370496) : ∃ y z, double.sub (4607182418800017408 + F) 4607182418800017408 = some y ∧ double.mul y 4841369599423283200 = some z ∧ floatToIntVal .f64 z .u64 = some (F : Int) := by
  have rg := rung_of 1022 (4503599627370496 + F) (by omega) (.inr (by omega))
  have rd := read_pos (r := 4607182418800017408 + F) (by omega)
  rw [show 4607182418800017408 + F = 1022 * 4503599627370496 + (4503599627370496 + F) by omega, rg.1, rg.2] at rd
  have sm : double.sub (4607182418800017408 + F) 4607182418800017408 = some (double.nearest false F (-52)) := by
    unfold Format.sub
    rw [show 4607182418800017408 + F = 1022 * 4503599627370496 + (4503599627370496 + F) by omega, rd, one_read]
    have e : (-1074 + ((1022 : Nat) : Int)) = -52 := by omega
    rw [e]
    have key : Datum.sum (.number false (4503599627370496 + F) (-52)) (Datum.opposite (.number false 4503599627370496 (-52))) = some (.number false F (-52)) := by
      have e0 : ((-52 : Int) - min (-52) (-52)).toNat = 0 := by decide
      have e1 : signed false (4503599627370496 + F) 0 + signed true 4503599627370496 0 = (F : Int) := by
        simp only [signed, Nat.shiftLeft_zero, Bool.false_eq_true, if_false, if_true]; omega
      simp only [Datum.sum, Datum.opposite, Bool.not_false, e0, e1]
      have e2 : (if (F : Int) = 0 then false && true else decide ((F : Int) < 0)) = false := by
        split
        · rfl
        · simp
      rw [e2, Int.natAbs_natCast, Int.min_self]
    rw [key, Option.map_some, write_num]
  rw [sm]
  by_cases h : F = 0
  · subst h
    exact ⟨0, 0, by decide, by decide, by decide⟩
  · have hl := log2_sub (Nat.pos_of_ne_zero h) hF
    have ne := nearest_exact false F 0 (-52) ((F.log2 : Int) - 104) (Nat.pos_of_ne_zero h) (by omega) (by omega) (by omega) (by omega)
    rw [Nat.pow_zero, Nat.mul_one, show (-52 : Int) - ((0 : Nat) : Int) = -52 by omega, show ((F.log2 : Int) - 104 + 1074).toNat = F.log2 + 970 by omega, show (-52 - ((F.log2 : Int) - 104)).toNat = 52 - F.log2 by omega] at ne
    have ne' : double.nearest false F (-52) = (F.log2 + 970) * 4503599627370496 + F * 2 ^ (52 - F.log2) := ne
    have big := norm_big F (Nat.pos_of_ne_zero h) (by omega)
    have rg2 := rung_of (F.log2 + 970) _ big.2 (.inr big.1)
    obtain ⟨q, hq⟩ : ∃ q, q = 1022 := ⟨_, rfl⟩
    have hv : val ((F.log2 + 970) * 4503599627370496 + F * 2 ^ (52 - F.log2)) = F * 2 ^ q := by
      unfold val
      rw [rg2.1, rg2.2, Nat.mul_assoc, ← Nat.pow_add, show 52 - F.log2 + (F.log2 + 970) = q by omega]
    rw [ne']
    obtain ⟨z, hz1, hz2⟩ := scaled _ F q hq (by omega) (Nat.pos_of_ne_zero h) hF hv
    exact ⟨_, z, rfl, hz1, hz2⟩
end Go.Proofs.Ythbcnieekpjhcaa.Fl
