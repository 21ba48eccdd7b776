/- Bits, walked: for every word that is a number it returns the word, and 0 of either zero. -/
import Derived.Test.YthbcnieekpjhcaaBits
import Derived.WalkLawsBesides
import Derived.Outline
set_option linter.unusedVariables false
set_option linter.unusedSimpArgs false
namespace Go.Proofs.Ythbcnieekpjhcaa.Fl
open Go.RowKit

theorem ret_nat {a : Int} {n : Nat} (h : a = n) : Ending.returned (.int .u64 a) = .returned (.int .u64 n) := by rw [h]
theorem ret_sum {r k F : Nat} (h : r = k * 4503599627370496 + F) : Ending.returned (.int .u64 ((k : Int) * 4503599627370496 + F)) = .returned (.int .u64 r) := by
  subst h; congr 2

set_option maxRecDepth 100000 in
theorem bits_pos (r : Nat) (w : World) (h0 : 0 < r) (h1 : r ≤ 9218868437227405312) :
    Calls Try.prog 40 #[.float .f64 r] w fun e w' => e = .returned (.int .u64 r) ∧ w = w' := by
  have o0 := ord_gt h1 (by omega) h0
  have c2 := Up.start h1
  have HU := Lib.hid c2
  clear c2
  go_enter Try.func40, Try.ntmps40
  go_wp2_with fail
  go_loop [0, 4] (fun v e => ∃ x k : Nat, v = .float .f64 x ∧ e = .int .u64 k ∧ Hid (Up r x k)) (fun v e => 2047 - (intOf e).toNat)
  case atStart => exact ⟨r, 1023, rfl, rfl, HU⟩
  case round =>
    obtain ⟨x, k, rfl, rfl, H⟩ := hrel
    have hxle := H.out.le
    have hk1 : 1023 ≤ k := H.out.1
    have hk2 : k ≤ 2047 := H.out.2.1
    have t1 := geq_two hxle
    clear hxle
    by_cases a : 4611686018427387904 ≤ x
    · rw [decide_eq_true a] at t1
      by_cases b : k < 2047
      · obtain ⟨y, q1, q2⟩ := H.out.less a b
        have q3 := fun w => run_float_arith (P := Try.prog) w .quo 25 .f64 x _ y q1
        have H2 := Lib.hid q2
        clear q1 q2 a H HU
        go_wp2_with fail
        go_round
        case rel => exact ⟨y, k + 1, rfl, by go_num, H2⟩
        case measure => simp [intOf]; omega
      · have b2 : k = 2047 := by omega
        subst b2
        have inf : r = 9218868437227405312 := by have := H.out; unfold Up at this; omega
        clear a H HU
        go_wp2_with fail
        go_ret
        exact ⟨rfl, rfl⟩
    · have c3 : k ≠ 2047 := by have := H.out; unfold Up at this; omega
      have hd := Down.start h0 H.out (.inl (by omega)) c3
      have D0 := Lib.hid hd
      have b : k < 2047 := by omega
      have b2 : ((k : Int) == 2047) = false := by simp; omega
      rw [decide_eq_false a] at t1
      clear hd c3 a H HU
      go_wp2_with fail
      clear t1
      go_loop [0, 4] (fun v e => ∃ x k : Nat, v = .float .f64 x ∧ e = .int .u64 k ∧ Hid (Down r x k)) (fun v e => (intOf e).toNat)
      case atStart => exact ⟨x, k, rfl, rfl, D0⟩
      case round =>
        clear D0 b b2 hk1 hk2
        obtain ⟨x, k, rfl, rfl, D⟩ := hrel
        have k1 : 1 ≤ k := D.out.1
        have k2 : k ≤ 2046 := D.out.2.1
        have hxle : x ≤ 9218868437227405312 := by have := D.out.2.2.2.1; omega
        have t2 := lss_one hxle
        clear hxle
        by_cases a : x < 4607182418800017408
        · rw [decide_eq_true a] at t2
          by_cases b : 1 < k
          · obtain ⟨q1, q2⟩ := D.out.more a b
            have q3 := fun w => run_float_arith (P := Try.prog) w .mul 25 .f64 x _ _ q1
            have H2 := Lib.hid q2
            clear q1 q2 a D
            go_wp2_with fail
            go_round
            case rel => exact ⟨dbl x, k - 1, rfl, by go_num, H2⟩
            case measure => simp [intOf]; omega
          · obtain ⟨-, z, q1, q2⟩ := D.out.small h0 a b
            have q3 := fun w => run_float_arith (P := Try.prog) w .mul 25 .f64 x _ _ q1
            have q4 := fun w => run_convert_float_int (P := Try.prog) w 25 24 .f64 .u64 z _ (by kernel_rfl) Try.underlying24 q2
            clear q1 q2 a D
            go_wp2_with fail
            go_ret
            exact ⟨rfl, rfl⟩
        · rw [decide_eq_false a] at t2
          obtain ⟨F, y, z, r1, r2, r3, q1, q2, q3⟩ := D.out.large a
          have q4 := fun w => run_float_arith (P := Try.prog) w .sub 25 .f64 x _ _ q1
          have q5 := fun w => run_float_arith (P := Try.prog) w .mul 25 .f64 y _ _ q2
          have q6 := fun w => run_convert_float_int (P := Try.prog) w 25 24 .f64 .u64 z _ (by kernel_rfl) Try.underlying24 q3
          have HR := Lib.hid r1
          clear q1 q2 q3 a D r1
          go_wp2_with fail
          go_ret
          exact ⟨ret_sum HR.out, rfl⟩
theorem ord_neg {f r : Nat} (h1 : r ≤ 9218868437227405312) (h0 : 0 < r) (hf : f = 9223372036854775808 + r) : FloatKind.f64.format.order f 0 = some .lt := by
  obtain ⟨b1, b2, b3⟩ := num_pos (r := 0) (by omega)
  have a1 : isNum f := by unfold isNum; omega
  have a3 : key f = -(r : Int) := by unfold key; rw [if_neg (by omega)]; omega
  exact (order_key f 0 (by omega) b2 a1 b1).trans (by rw [a3, b3, Int.compare_eq_lt.2 (by omega)])

theorem neg_word {f r : Nat} (h1 : r ≤ 9218868437227405312) (hf : f = 9223372036854775808 + r) : Op.negFloat .f64 f = r := by
  have e : Op.negFloat .f64 f = f ^^^ 2 ^ 63 := rfl
  rw [e, hf]
  have k : ∀ m : Nat, m < 2 ^ 63 → m ^^^ 2 ^ 63 = m + 2 ^ 63 := by
    intro m hm
    have a := Nat.two_pow_add_eq_or_of_lt (i := 63) (b := m) hm 1
    have b : m ^^^ 2 ^ 63 = m ||| 2 ^ 63 := by
      apply Nat.eq_of_testBit_eq
      intro i
      rw [Nat.testBit_xor, Nat.testBit_or, Nat.testBit_two_pow]
      by_cases hi : 63 = i
      · subst hi; rw [Nat.testBit_lt_two_pow hm]; simp
      · simp [hi]
    rw [Nat.mul_one] at a
    rw [b, Nat.or_comm, ← a]; omega
  rw [show 9223372036854775808 + r = r + 2 ^ 63 by omega, ← k r (by omega), Nat.xor_assoc, Nat.xor_self, Nat.xor_zero]

set_option maxRecDepth 100000 in
theorem bits_neg (f r : Nat) (w : World) (hf : f = 9223372036854775808 + r) (h0 : 0 < r) (h1 : r ≤ 9218868437227405312) :
    Calls Try.prog 40 #[.float .f64 f] w fun e w' => e = .returned (.int .u64 f) ∧ w = w' := by
  have o0 := ord_gt h1 (by omega) h0
  have on := ord_neg h1 h0 hf
  have ng : ∀ w, (Op.unary .neg (.float .f64 f)).run Try.prog w = .ok (.float .f64 r) w := fun w => by
    rw [show Op.unary .neg (.float .f64 f) = pure (.float .f64 (Op.negFloat .f64 f)) from rfl, neg_word h1 hf]; rfl
  have HF := Lib.hid hf
  clear hf
  have c2 := Up.start h1
  have HU := Lib.hid c2
  clear c2
  go_enter Try.func40, Try.ntmps40
  go_wp2_with fail
  go_loop [0, 4] (fun v e => ∃ x k : Nat, v = .float .f64 x ∧ e = .int .u64 k ∧ Hid (Up r x k)) (fun v e => 2047 - (intOf e).toNat)
  case atStart => exact ⟨r, 1023, rfl, rfl, HU⟩
  case round =>
    obtain ⟨x, k, rfl, rfl, H⟩ := hrel
    have hxle := H.out.le
    have hk1 : 1023 ≤ k := H.out.1
    have hk2 : k ≤ 2047 := H.out.2.1
    have t1 := geq_two hxle
    clear hxle
    by_cases a : 4611686018427387904 ≤ x
    · rw [decide_eq_true a] at t1
      by_cases b : k < 2047
      · obtain ⟨y, q1, q2⟩ := H.out.less a b
        have q3 := fun w => run_float_arith (P := Try.prog) w .quo 25 .f64 x _ y q1
        have H2 := Lib.hid q2
        clear q1 q2 a H HU
        go_wp2_with fail
        go_round
        case rel => exact ⟨y, k + 1, rfl, by go_num, H2⟩
        case measure => simp [intOf]; omega
      · have b2 : k = 2047 := by omega
        subst b2
        have inf : r = 9218868437227405312 := by have := H.out; unfold Up at this; omega
        clear a H HU
        go_wp2_with fail
        go_ret
        exact ⟨ret_nat (by have := HF.out; omega), rfl⟩
    · have c3 : k ≠ 2047 := by have := H.out; unfold Up at this; omega
      have hd := Down.start h0 H.out (.inl (by omega)) c3
      have D0 := Lib.hid hd
      have b : k < 2047 := by omega
      have b2 : ((k : Int) == 2047) = false := by simp; omega
      rw [decide_eq_false a] at t1
      clear hd c3 a H HU
      go_wp2_with fail
      clear t1
      go_loop [0, 4] (fun v e => ∃ x k : Nat, v = .float .f64 x ∧ e = .int .u64 k ∧ Hid (Down r x k)) (fun v e => (intOf e).toNat)
      case atStart => exact ⟨x, k, rfl, rfl, D0⟩
      case round =>
        clear D0 b b2 hk1 hk2
        obtain ⟨x, k, rfl, rfl, D⟩ := hrel
        have k1 : 1 ≤ k := D.out.1
        have k2 : k ≤ 2046 := D.out.2.1
        have hxle : x ≤ 9218868437227405312 := by have := D.out.2.2.2.1; omega
        have t2 := lss_one hxle
        clear hxle
        by_cases a : x < 4607182418800017408
        · rw [decide_eq_true a] at t2
          by_cases b : 1 < k
          · obtain ⟨q1, q2⟩ := D.out.more a b
            have q3 := fun w => run_float_arith (P := Try.prog) w .mul 25 .f64 x _ _ q1
            have H2 := Lib.hid q2
            clear q1 q2 a D
            go_wp2_with fail
            go_round
            case rel => exact ⟨dbl x, k - 1, rfl, by go_num, H2⟩
            case measure => simp [intOf]; omega
          · obtain ⟨-, z, q1, q2⟩ := D.out.small h0 a b
            have q3 := fun w => run_float_arith (P := Try.prog) w .mul 25 .f64 x _ _ q1
            have q4 := fun w => run_convert_float_int (P := Try.prog) w 25 24 .f64 .u64 z _ (by kernel_rfl) Try.underlying24 q2
            clear q1 q2 a D
            go_wp2_with fail
            go_ret
            exact ⟨ret_nat (by have := HF.out; omega), rfl⟩
        · rw [decide_eq_false a] at t2
          obtain ⟨F, y, z, r1, r2, r3, q1, q2, q3⟩ := D.out.large a
          have q4 := fun w => run_float_arith (P := Try.prog) w .sub 25 .f64 x _ _ q1
          have q5 := fun w => run_float_arith (P := Try.prog) w .mul 25 .f64 y _ _ q2
          have q6 := fun w => run_convert_float_int (P := Try.prog) w 25 24 .f64 .u64 z _ (by kernel_rfl) Try.underlying24 q3
          have HR := Lib.hid r1
          clear q1 q2 q3 a D r1
          go_wp2_with fail
          go_ret
          exact ⟨ret_nat (by have := HF.out; have := HR.out; omega), rfl⟩

theorem bits_zero (f : Nat) (w : World) (h : FloatKind.f64.format.order f 0 = some .eq) :
    Calls Try.prog 40 #[.float .f64 f] w fun e w' => e = .returned (.int .u64 0) ∧ w = w' := by
  go_enter Try.func40, Try.ntmps40
  go_wp2_with fail
  go_ret
  exact ⟨rfl, rfl⟩

/-- What Bits returns. -/
def bitsOf (f : Nat) : Nat := if f % 9223372036854775808 = 0 then 0 else f

theorem zero_eq (f : Nat) (hf : f < 18446744073709551616) (h : f % 9223372036854775808 = 0) : FloatKind.f64.format.order f 0 = some .eq := by
  obtain ⟨b1, b2, b3⟩ := num_pos (r := 0) (by omega)
  have a1 : isNum f := by unfold isNum; omega
  have a3 : key f = 0 := by unfold key; split <;> omega
  exact (order_key f 0 (by omega) b2 a1 b1).trans (by rw [a3, b3]; rfl)

theorem bits_call (f : Nat) (w : World) (hf : f < 18446744073709551616) (hn : isNum f) :
    Calls Try.prog 40 #[.float .f64 f] w fun e w' => e = .returned (.int .u64 (bitsOf f)) ∧ w = w' := by
  unfold isNum at hn
  unfold bitsOf
  by_cases z : f % 9223372036854775808 = 0
  · rw [if_pos z]; exact bits_zero f w (zero_eq f hf z)
  · rw [if_neg z]
    by_cases c : f < 9223372036854775808
    · exact bits_pos f w (by omega) (by omega)
    · exact bits_neg f (f - 9223372036854775808) w (by omega) (by omega) (by omega)
end Go.Proofs.Ythbcnieekpjhcaa.Fl
