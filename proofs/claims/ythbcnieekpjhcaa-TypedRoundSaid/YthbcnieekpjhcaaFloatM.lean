/- Numbers of double precision in plain arithmetic: what a word's rung is worth, in units of 2^-1074, and what the operations on words that the codec's law uses come to. -/
import Derived.Laws.FloatArith
set_option linter.unusedVariables false
namespace Go.Proofs.Ythbcnieekpjhcaa.Fl
open Ieee

theorem sw : double.signWeight = 9223372036854775808 := by decide
theorem bn : double.binade = 4503599627370496 := by decide
theorem ir : double.infRung = 9218868437227405312 := by decide
theorem lp : double.leastPlace = -1074 := by decide

/-- The magnitude of a rung, and the place of its last digit (behind 1074). -/
def magOf (r : Nat) : Nat := if r < 4503599627370496 then r else 4503599627370496 + r % 4503599627370496
def plOf (r : Nat) : Nat := r / 4503599627370496 - 1

theorem read_pos {r : Nat} (h : r < 9218868437227405312) : double.read r = .number false (magOf r) (-1074 + (plOf r : Nat)) := by
  unfold Format.read
  simp only [sw, bn, ir, lp]
  have e1 : r / 9223372036854775808 = 0 := by omega
  have e2 : r % 9223372036854775808 = r := by omega
  rw [e1, e2]
  unfold magOf plOf
  by_cases c : r < 4503599627370496
  · rw [if_pos c, if_pos c]
    have : r / 4503599627370496 = 0 := by omega
    rw [this]; simp
  · rw [if_neg c, if_pos h, if_neg c]; simp

theorem read_neg {r : Nat} (h : r < 9218868437227405312) : double.read (9223372036854775808 + r) = .number true (magOf r) (-1074 + (plOf r : Nat)) := by
  unfold Format.read
  simp only [sw, bn, ir, lp]
  have e1 : (9223372036854775808 + r) / 9223372036854775808 = 1 := by omega
  have e2 : (9223372036854775808 + r) % 9223372036854775808 = r := by omega
  rw [e1, e2]
  unfold magOf plOf
  by_cases c : r < 4503599627370496
  · rw [if_pos c, if_pos c]
    have : r / 4503599627370496 = 0 := by omega
    rw [this]; simp
  · rw [if_neg c, if_pos h, if_neg c]; simp

theorem read_inf : double.read 9218868437227405312 = .infinity false := by decide
theorem read_ninf : double.read (9223372036854775808 + 9218868437227405312) = .infinity true := by decide

/-! ### Order -/
/-- What a rung is worth. -/
def val (r : Nat) : Nat := magOf r * 2 ^ plOf r

theorem val_small {r : Nat} (h : r < 4503599627370496) : val r = r := by
  unfold val magOf plOf
  have : r / 4503599627370496 = 0 := by omega
  rw [if_pos h, this]; simp

theorem val_lt {a b : Nat} (h : a < b) : val a < val b := by
  unfold val magOf plOf
  by_cases ca : a < 4503599627370496
  · have ea : a / 4503599627370496 = 0 := by omega
    rw [if_pos ca, ea]
    by_cases cb : b < 4503599627370496
    · have eb : b / 4503599627370496 = 0 := by omega
      rw [if_pos cb, eb]; simpa using h
    · rw [if_neg cb]
      have p : 0 < 2 ^ (b / 4503599627370496 - 1) := Nat.two_pow_pos _
      have := Nat.le_mul_of_pos_right (4503599627370496 + b % 4503599627370496) p
      simp only [Nat.zero_sub, Nat.pow_zero, Nat.mul_one]
      omega
  · have cb : ¬ b < 4503599627370496 := by omega
    rw [if_neg ca, if_neg cb]
    by_cases e : a / 4503599627370496 = b / 4503599627370496
    · rw [e]
      exact Nat.mul_lt_mul_of_pos_right (by omega) (Nat.two_pow_pos _)
    · have hle : a / 4503599627370496 ≤ b / 4503599627370496 - 1 := by have := Nat.div_le_div_right (c := 4503599627370496) (Nat.le_of_lt h); omega
      have h1 : (4503599627370496 + a % 4503599627370496) * 2 ^ (a / 4503599627370496 - 1) < 9007199254740992 * 2 ^ (a / 4503599627370496 - 1) := Nat.mul_lt_mul_of_pos_right (by omega) (Nat.two_pow_pos _)
      have h2 : 9007199254740992 * 2 ^ (a / 4503599627370496 - 1) = 4503599627370496 * 2 ^ (a / 4503599627370496) := by
        obtain ⟨n, hn⟩ : ∃ n, a / 4503599627370496 = n + 1 := ⟨a / 4503599627370496 - 1, by omega⟩
        rw [hn, Nat.add_sub_cancel, Nat.pow_succ]; omega
      have h3 : 4503599627370496 * 2 ^ (a / 4503599627370496) ≤ 4503599627370496 * 2 ^ (b / 4503599627370496 - 1) := Nat.mul_le_mul_left _ (Nat.pow_le_pow_right (by omega) hle)
      have h4 : 4503599627370496 * 2 ^ (b / 4503599627370496 - 1) ≤ (4503599627370496 + b % 4503599627370496) * 2 ^ (b / 4503599627370496 - 1) := Nat.mul_le_mul_right _ (by omega)
      omega

theorem val_cmp (a b : Nat) : compare (val a) (val b) = compare a b := by
  rcases Nat.lt_trichotomy a b with h | h | h
  · rw [Nat.compare_eq_lt.2 h, Nat.compare_eq_lt.2 (val_lt h)]
  · subst h; simp
  · rw [Nat.compare_eq_gt.2 h, Nat.compare_eq_gt.2 (val_lt h)]

theorem val_pos {a : Nat} (h : 0 < a) : 0 < val a := by
  have := val_lt h; omega
theorem val_zero : val 0 = 0 := by rw [val_small (by omega)]

theorem cmp_iff (x y : Int) (o : Ordering) (h : (o = .lt ∧ x < y) ∨ (o = .eq ∧ x = y) ∨ (o = .gt ∧ y < x)) : compare x y = o := by
  rcases h with ⟨rfl, h⟩ | ⟨rfl, h⟩ | ⟨rfl, h⟩
  · exact Int.compare_eq_lt.2 h
  · exact Int.compare_eq_eq.2 h
  · exact Int.compare_eq_gt.2 h

/-- With its sign. -/
def sg (s : Bool) (v : Nat) : Int := if s then -(v : Int) else v

theorem cmp_scale (x y : Int) (k : Nat) (hk : 0 < k) : compare x y = compare (x * k) (y * k) := by
  have hk' : (0 : Int) < k := by omega
  rcases Int.lt_trichotomy x y with h | h | h
  · rw [Int.compare_eq_lt.2 h, Int.compare_eq_lt.2 (Int.mul_lt_mul_of_pos_right h hk')]
  · subst h; rw [Int.compare_eq_eq.2 rfl, Int.compare_eq_eq.2 rfl]
  · rw [Int.compare_eq_gt.2 h, Int.compare_eq_gt.2 (Int.mul_lt_mul_of_pos_right h hk')]

theorem sg_cmp (s t : Bool) (a b : Nat) : compare (sg s (val a)) (sg t (val b)) = compare (sg s a) (sg t b) := by
  have h0 : ∀ c, 0 < c → 0 < val c := fun c h => val_pos h
  have z := val_zero
  rcases Nat.lt_trichotomy a b with h | h | h
  · have v := val_lt h
    cases s <;> cases t <;> simp only [sg, if_true, if_false, Bool.false_eq_true]
    · rw [Int.compare_eq_lt.2 (by omega), Int.compare_eq_lt.2 (by omega)]
    · rw [Int.compare_eq_gt.2 (by omega), Int.compare_eq_gt.2 (by omega)]
    · rw [Int.compare_eq_lt.2 (by omega), Int.compare_eq_lt.2 (by omega)]
    · rw [Int.compare_eq_gt.2 (by omega), Int.compare_eq_gt.2 (by omega)]
  · subst h
    by_cases e : a = 0
    · subst e; rw [z]
    · have v := val_pos (Nat.pos_of_ne_zero e)
      cases s <;> cases t <;> simp only [sg, if_true, if_false, Bool.false_eq_true]
      · rw [Int.compare_eq_eq.2 rfl, Int.compare_eq_eq.2 rfl]
      · rw [Int.compare_eq_gt.2 (by omega), Int.compare_eq_gt.2 (by omega)]
      · rw [Int.compare_eq_lt.2 (by omega), Int.compare_eq_lt.2 (by omega)]
      · rw [Int.compare_eq_eq.2 rfl, Int.compare_eq_eq.2 rfl]
  · have v := val_lt h
    cases s <;> cases t <;> simp only [sg, if_true, if_false, Bool.false_eq_true]
    · rw [Int.compare_eq_gt.2 (by omega), Int.compare_eq_gt.2 (by omega)]
    · rw [Int.compare_eq_gt.2 (by omega), Int.compare_eq_gt.2 (by omega)]
    · rw [Int.compare_eq_lt.2 (by omega), Int.compare_eq_lt.2 (by omega)]
    · rw [Int.compare_eq_lt.2 (by omega), Int.compare_eq_lt.2 (by omega)]

theorem signed_scale (s : Bool) (m a c : Nat) (h : c ≤ a) : signed s m (a - c) * (2 ^ c : Nat) = sg s (m * 2 ^ a) := by
  unfold signed sg
  have e : m <<< (a - c) * 2 ^ c = m * 2 ^ a := by
    rw [Nat.shiftLeft_eq, Nat.mul_assoc, ← Nat.pow_add, Nat.sub_add_cancel h]
  cases s
  · simp only [Bool.false_eq_true, if_false]; rw [← e]; push_cast; rfl
  · simp only [if_true]; rw [← e]; push_cast; rw [Int.neg_mul]

theorem order_num (s t : Bool) (m n a b : Nat) :
    Datum.order (.number s m (-1074 + (a : Nat))) (.number t n (-1074 + (b : Nat))) = some (compare (sg s (m * 2 ^ a)) (sg t (n * 2 ^ b))) := by
  simp only [Datum.order]
  congr 1
  have e1 : (-1074 + (a : Int) - min (-1074 + (a : Int)) (-1074 + (b : Int))).toNat = a - min a b := by omega
  have e2 : (-1074 + (b : Int) - min (-1074 + (a : Int)) (-1074 + (b : Int))).toNat = b - min a b := by omega
  rw [e1, e2, cmp_scale _ _ (2 ^ min a b) (Nat.two_pow_pos _), signed_scale s m a _ (Nat.min_le_left _ _), signed_scale t n b _ (Nat.min_le_right _ _)]

/-- A word as a number on the line of the rungs. -/
def key (x : Nat) : Int := if x < 9223372036854775808 then x else -((x - 9223372036854775808 : Nat) : Int)
/-- Is the word one of what is no number? -/
def isNum (x : Nat) : Prop := x % 9223372036854775808 ≤ 9218868437227405312

theorem read_word (x : Nat) (hx : x < 18446744073709551616) (h : x % 9223372036854775808 < 9218868437227405312) :
    ∃ s r, r < 9218868437227405312 ∧ key x = sg s r ∧ double.read x = .number s (magOf r) (-1074 + (plOf r : Nat)) := by
  by_cases c : x < 9223372036854775808
  · have e : x % 9223372036854775808 = x := by omega
    rw [e] at h
    exact ⟨false, x, h, by simp [key, sg, c], read_pos h⟩
  · obtain ⟨r, rfl⟩ : ∃ r, x = 9223372036854775808 + r := ⟨x - 9223372036854775808, by omega⟩
    have hr : r < 9218868437227405312 := by omega
    exact ⟨true, r, hr, by simp only [key, sg, if_neg c, if_true]; omega, read_neg hr⟩

theorem order_key (x y : Nat) (hx : x < 18446744073709551616) (hy : y < 18446744073709551616) (nx : isNum x) (ny : isNum y) : double.order x y = some (compare (key x) (key y)) := by
  have infc : ∀ z : Nat, z < 18446744073709551616 → z % 9223372036854775808 = 9218868437227405312 → ∃ s, double.read z = .infinity s ∧ key z = sg s 9218868437227405312 := by
    intro z hz h
    by_cases c : z < 9223372036854775808
    · have e : z = 9218868437227405312 := by omega
      subst e; exact ⟨false, read_inf, by simp [key, sg]⟩
    · have e : z = 9223372036854775808 + 9218868437227405312 := by omega
      subst e; exact ⟨true, read_ninf, by simp [key, sg]⟩
  unfold isNum at nx ny
  unfold Format.order
  by_cases cx : x % 9223372036854775808 = 9218868437227405312
  · obtain ⟨s, e1, k1⟩ := infc x hx cx
    by_cases cy : y % 9223372036854775808 = 9218868437227405312
    · obtain ⟨t, e2, k2⟩ := infc y hy cy
      rw [e1, e2, k1, k2]
      cases s <;> cases t <;> simp [Datum.order, sg] <;> decide
    · obtain ⟨t, r, hr, k2, e2⟩ := read_word y hy (by omega)
      rw [e1, e2, k1, k2]
      simp only [Datum.order]
      congr 1
      cases s
      · simp only [Bool.false_eq_true, if_false]
        refine (cmp_iff _ _ _ (.inr (.inr ⟨rfl, ?_⟩))).symm
        cases t <;> simp [sg] <;> omega
      · simp only [if_true]
        refine (cmp_iff _ _ _ (.inl ⟨rfl, ?_⟩)).symm
        cases t <;> simp [sg] <;> omega
  · obtain ⟨s, r, hr, k1, e1⟩ := read_word x hx (by omega)
    by_cases cy : y % 9223372036854775808 = 9218868437227405312
    · obtain ⟨t, e2, k2⟩ := infc y hy cy
      rw [e1, e2, k1, k2]
      simp only [Datum.order]
      congr 1
      cases t
      · simp only [Bool.false_eq_true, if_false]
        refine (cmp_iff _ _ _ (.inl ⟨rfl, ?_⟩)).symm
        cases s <;> simp [sg] <;> omega
      · simp only [if_true]
        refine (cmp_iff _ _ _ (.inr (.inr ⟨rfl, ?_⟩))).symm
        cases s <;> simp [sg] <;> omega
    · obtain ⟨t, q, hq, k2, e2⟩ := read_word y hy (by omega)
      rw [e1, e2, k1, k2, order_num]
      congr 1
      exact sg_cmp s t r q

theorem read_nan (x : Nat) (hx : x < 18446744073709551616) (h : ¬ isNum x) : ∃ s f, double.read x = .nan s f := by
  unfold isNum at h
  unfold Format.read
  simp only [sw, bn, ir]
  rw [if_neg (by omega), if_neg (by omega), if_neg (by omega)]
  exact ⟨_, _, rfl⟩

theorem order_nan_left (x y : Nat) (hx : x < 18446744073709551616) (h : ¬ isNum x) : double.order x y = none := by
  obtain ⟨s, f, e⟩ := read_nan x hx h
  unfold Format.order
  rw [e]; cases double.read y <;> rfl
theorem order_nan_right (x y : Nat) (hy : y < 18446744073709551616) (h : ¬ isNum y) : double.order x y = none := by
  obtain ⟨s, f, e⟩ := read_nan y hy h
  unfold Format.order
  rw [e]; cases double.read x <;> rfl
end Go.Proofs.Ythbcnieekpjhcaa.Fl
