/- The codec of floats: what each call of Pack, Unpack, Width and Align returns; and the reference's. -/
import Derived.Test.YthbcnieekpjhcaaBitsW
import Derived.Laws.Externs
import Derived.WalkLawsBesides
import Derived.Outline
set_option linter.unusedVariables false
set_option linter.unusedSimpArgs false
namespace Go.Proofs.Ythbcnieekpjhcaa.Fl
open Go.RowKit Go.Proofs.Ythbcnieekpjhcaa.Leaf

theorem f64bits (b : Nat) (w : World) : (callFunc 44 #[.float .f64 b]).run Try.prog w = .ok (Next.value (.int .u64 b)) w := by kernel_rfl
theorem f64from (n : Int) (w : World) : (callFunc 48 #[.int .u64 n]).run Try.prog w = .ok (Next.value (.float .f64 n.toNat)) w := by kernel_rfl

/-! ### The sign bit -/
theorem top_bit (f : Nat) : f &&& 2 ^ 63 = if f.testBit 63 then 2 ^ 63 else 0 := by
  apply Nat.eq_of_testBit_eq
  intro i
  rw [Nat.testBit_and, Nat.testBit_two_pow]
  cases hb : f.testBit 63
  · rw [if_neg (by simp), Nat.zero_testBit]
    by_cases hi : 63 = i
    · subst hi; rw [hb]; rfl
    · rw [decide_eq_false hi, Bool.and_false]
  · rw [if_pos rfl, Nat.testBit_two_pow]
    by_cases hi : 63 = i
    · subst hi; rw [hb]; rfl
    · rw [decide_eq_false hi, Bool.and_false]

theorem and_sign (f : Nat) (h : f < 18446744073709551616) : Go.bits .and .u64 (f : Int) 9223372036854775808 = if f < 9223372036854775808 then 0 else 9223372036854775808 := by
  have e := u64_and_nat f 9223372036854775808 h (by omega)
  rw [show ((9223372036854775808 : Nat) : Int) = 9223372036854775808 from rfl] at e
  have t : f.testBit 63 = decide (9223372036854775808 ≤ f) := by
    rw [Nat.testBit_eq_decide_div_mod_eq]
    congr 1
    simp only [eq_iff_iff]
    omega
  have k : f &&& 9223372036854775808 = if f < 9223372036854775808 then 0 else 9223372036854775808 := by
    have := top_bit f
    rw [t] at this
    rw [show (9223372036854775808 : Nat) = 2 ^ 63 by decide] at this ⊢
    rw [this]
    by_cases c : f < 2 ^ 63
    · rw [if_pos c, decide_eq_false (by omega)]; rfl
    · rw [if_neg c, decide_eq_true (by omega)]; rfl
  rw [e, k]
  split <;> rfl

theorem or_sign (f : Nat) (h : f < 9223372036854775808) : Go.bits .or .u64 (f : Int) 9223372036854775808 = (f : Int) + 9223372036854775808 := by
  have e := u64_or_nat f 9223372036854775808 (by omega) (by omega)
  rw [show ((9223372036854775808 : Nat) : Int) = 9223372036854775808 from rfl] at e
  rw [e]
  have a := Nat.two_pow_add_eq_or_of_lt (i := 63) (b := f) (by omega) 1
  rw [Nat.mul_one] at a
  rw [show (9223372036854775808 : Nat) = 2 ^ 63 by decide, Nat.or_comm, ← a]
  omega

theorem not_word (f : Nat) (h : f < 18446744073709551616) : Go.bits .xor .u64 18446744073709551615 (f : Int) = 18446744073709551615 - (f : Int) := by
  have e := u64_xor_nat 18446744073709551615 f (by omega) h
  rw [show ((18446744073709551615 : Nat) : Int) = 18446744073709551615 from rfl] at e
  rw [e]
  have k : 18446744073709551615 ^^^ f = 18446744073709551615 - f := by
    have h1 : (18446744073709551615 : Nat) = 2 ^ 64 - 1 := by decide
    have h2 : 18446744073709551615 - f = 2 ^ 64 - (f + 1) := by omega
    rw [h2, h1]
    apply Nat.eq_of_testBit_eq
    intro i
    rw [Nat.testBit_xor, Nat.testBit_two_pow_sub_one, Nat.testBit_two_pow_sub_succ (by omega)]
    by_cases c : i < 64
    · simp [c]
    · have : f.testBit i = false := Nat.testBit_lt_two_pow (Nat.lt_of_lt_of_le (show f < 2 ^ 64 by omega) (Nat.pow_le_pow_right (by omega) (by omega)))
      simp [c, this]
  rw [k]; omega

theorem andNot_sign (x : Nat) (h : x < 18446744073709551616) (h2 : 9223372036854775808 ≤ x) : Go.bits .andNot .u64 (x : Int) 9223372036854775808 = (x : Int) - 9223372036854775808 := by
  have e := u64_andNot_nat x 9223372036854775808 h (by omega)
  rw [show ((9223372036854775808 : Nat) : Int) = 9223372036854775808 from rfl] at e
  rw [e, show 18446744073709551615 - 9223372036854775808 = 2 ^ 63 - 1 by decide, Nat.and_two_pow_sub_one_eq_mod]
  omega

/-! ### Pack -/
/-- The number whose eight bytes a float's are. -/
def fkey (f : Nat) : Int := if f % 9223372036854775808 ≤ 9218868437227405312 then (if f % 9223372036854775808 = 0 then 9223372036854775808 else if f < 9223372036854775808 then (f : Int) + 9223372036854775808 else 18446744073709551615 - (f : Int)) else 18446744073709551615

theorem fkey_range (f : Nat) (h : f < 18446744073709551616) : 0 ≤ fkey f ∧ fkey f < 18446744073709551616 := by
  unfold fkey; split
  · split
    · omega
    · split <;> omega
  · omega

theorem not_run (f : Nat) (h : f < 18446744073709551616) : Go.bits .xor .u64 IntKind.u64.max (f : Int) = 18446744073709551615 - (f : Int) := not_word f h

theorem ord_refl (f : Nat) (h : f < 18446744073709551616) (hn : isNum f) : FloatKind.f64.format.order f f = some .eq :=
  (order_key f f h h hn hn).trans (by rw [Int.compare_eq_eq.2 rfl])

theorem ord_nan (f c : Nat) (h : f < 18446744073709551616) (hn : ¬ isNum f) : FloatKind.f64.format.order f c = none := order_nan_left f c h hn

theorem ord_ne_zero (f : Nat) (h : f < 18446744073709551616) (hn : isNum f) (hz : f % 9223372036854775808 ≠ 0) : (FloatKind.f64.format.order f 0 == some .eq) = false := by
  unfold isNum at hn
  by_cases c : f < 9223372036854775808
  · rw [ord_gt (by omega) (by omega) (by omega)]; rfl
  · rw [ord_neg (r := f - 9223372036854775808) (by omega) (by omega) (by omega)]; rfl

theorem float_pack (f : Nat) (w : World) (h : f < 18446744073709551616) :
    Calls Try.prog 11 #[.agg #[], .float .f64 f] w fun e w' => e = .returned (.tuple #[.string (be8 (fkey f)), .bool true]) ∧ Below w.heap.size w w' := by
  have hb := fun w => f64bits f w
  by_cases hn : f % 9223372036854775808 ≤ 9218868437227405312
  · have o1 := ord_refl f h hn
    by_cases hz : f % 9223372036854775808 = 0
    · have o2 := zero_eq f h hz
      have hk : fkey f = 9223372036854775808 := by unfold fkey; rw [if_pos hn, if_pos hz]
      rw [hk]
      clear hz hk hn
      go_enter Try.func11, Try.ntmps11
      go_wp2_with fail
      refine (bytes_call _ _).mono ?_
      rintro e w' ⟨rfl, hb⟩
      go_wp2_with fail
      go_ret2
      exact ⟨rfl, below_box hb⟩
    · have o2 := ord_ne_zero f h hn hz
      have an := and_sign f h
      by_cases c : f < 9223372036854775808
      · have hk : fkey f = (f : Int) + 9223372036854775808 := by unfold fkey; rw [if_pos hn, if_neg hz, if_pos c]
        have og := or_sign f c
        rw [if_pos c] at an
        rw [hk]
        clear hz hk hn c
        go_enter Try.func11, Try.ntmps11
        go_wp2_with fail
        refine (bytes_call _ _).mono ?_
        rintro e w' ⟨rfl, hb⟩
        go_wp2_with fail
        go_ret2
        exact ⟨rfl, below_box hb⟩
      · have hk : fkey f = 18446744073709551615 - (f : Int) := by unfold fkey; rw [if_pos hn, if_neg hz, if_neg c]
        have og := not_run f h
        rw [if_neg c] at an
        rw [hk]
        clear hz hk hn c
        go_enter Try.func11, Try.ntmps11
        go_wp2_with fail
        refine (bytes_call _ _).mono ?_
        rintro e w' ⟨rfl, hb⟩
        go_wp2_with fail
        go_ret2
        exact ⟨rfl, below_box hb⟩
  · have o1 := fun c => ord_nan f c h hn
    have hk : fkey f = 18446744073709551615 := by unfold fkey; rw [if_neg hn]
    rw [hk]
    clear hk hn
    go_enter Try.func11, Try.ntmps11
    go_wp2_with fail
    refine (bytes_call _ _).mono ?_
    rintro e w' ⟨rfl, hb⟩
    go_wp2_with fail
    go_ret2
    exact ⟨rfl, below_box hb⟩

theorem float_width (w : World) : Calls Try.prog 41 #[.agg #[]] w fun e w' => e = .returned (.int .i64 8) ∧ Below w.heap.size w w' := by
  go_enter Try.func41, Try.ntmps41
  go_wp2_with fail
  go_ret
  exact ⟨rfl, below_box0⟩
theorem float_align (w : World) : Calls Try.prog 42 #[.agg #[]] w fun e w' => e = .returned (.int .i64 8) ∧ Below w.heap.size w w' := by
  go_enter Try.func42, Try.ntmps42
  go_wp2_with fail
  go_ret
  exact ⟨rfl, below_box0⟩

/-- the NaN that math.NaN makes -/
def nanWord : Nat := 9221120237041090561
theorem nan_call (w : World) : Calls Try.prog 47 #[] w fun e w' => e = .returned (.float .f64 nanWord) ∧ w = w' := by
  have hb := fun w => f64from 9221120237041090561 w
  go_enter Try.func47, Try.ntmps47
  go_wp2_with fail
  go_ret
  exact ⟨rfl, rfl⟩

/-- What Float.Unpack returns. -/
def unf (s : ByteArray) : Nat := if s.size = 8 then (if of8 s = 18446744073709551615 then nanWord else if 9223372036854775808 ≤ of8 s then (of8 s - 9223372036854775808).toNat else (18446744073709551615 - of8 s).toNat) else 0

theorem ret_float {a b : Nat} (h : a = b) : Ending.returned (.float .f64 a) = .returned (.float .f64 b) := by rw [h]

theorem float_unpack (s : ByteArray) (w : World) :
    Calls Try.prog 21 #[.agg #[], .string s] w fun e w' => e = .returned (.float .f64 (unf s)) ∧ Below w.heap.size w w' := by
  by_cases hs : s.size = 8
  · have hr := of8_range s
    have e1 : num8 s = of8 s := by unfold num8; rw [if_pos hs]
    have hc := fun w => number_call s w
    rw [e1, show decide (s.size = 8) = true by simp [hs]] at hc
    have HC := Lib.hid hc
    unfold unf
    rw [if_pos hs]
    obtain ⟨x, hx⟩ := Int.eq_ofNat_of_zero_le hr.1
    rw [hx] at hr HC
    rw [hx]
    clear hc e1 hs hx
    by_cases c : (x : Int) = 18446744073709551615
    · rw [if_pos c]
      have t : ((x : Int) == 18446744073709551615) = true := by simp [c]
      have b1 : (18446744073709551615 : Int) ≤ x := by omega
      clear c hr
      go_enter Try.func21, Try.ntmps21
      go_wp2_with fail
      refine (HC.out _).mono ?_
      rintro e w1 ⟨rfl, hd⟩
      have h1 := drawn_below (B := (w.alloc (.cells #[] 33)).heap.size) hd
      go_wp2_with fail
      refine (nan_call _).mono ?_
      rintro e w2 ⟨rfl, rfl⟩
      go_wp2_with fail
      go_ret
      exact ⟨rfl, below_box h1⟩
    · rw [if_neg c]
      have t : ((x : Int) == 18446744073709551615) = false := by simp; omega
      have an := and_sign x (by omega)
      by_cases d : 9223372036854775808 ≤ x
      · rw [if_pos (by omega)]
        rw [if_neg (by omega)] at an
        have nt := andNot_sign x (by omega) d
        have hb := fun w => f64from ((x : Int) - 9223372036854775808) w
        clear c d hr
        go_enter Try.func21, Try.ntmps21
        go_wp2_with fail
        refine (HC.out _).mono ?_
        rintro e w1 ⟨rfl, hd⟩
        have h1 := drawn_below (B := (w.alloc (.cells #[] 33)).heap.size) hd
        go_wp2_with fail
        go_ret
        exact ⟨rfl, below_box h1⟩
      · rw [if_neg (by omega)]
        rw [if_pos (by omega)] at an
        have nt := not_run x (by omega)
        have hb := fun w => f64from (18446744073709551615 - (x : Int)) w
        clear c d hr
        go_enter Try.func21, Try.ntmps21
        go_wp2_with fail
        refine (HC.out _).mono ?_
        rintro e w1 ⟨rfl, hd⟩
        have h1 := drawn_below (B := (w.alloc (.cells #[] 33)).heap.size) hd
        go_wp2_with fail
        go_ret
        exact ⟨ret_float (by omega), below_box h1⟩
  · have e1 : num8 s = 0 := by unfold num8; rw [if_neg hs]
    have hc := fun w => number_call s w
    rw [e1, show decide (s.size = 8) = false by simp [hs]] at hc
    have HC := Lib.hid hc
    unfold unf
    rw [if_neg hs]
    clear hc e1 hs
    go_enter Try.func21, Try.ntmps21
    go_wp2_with fail
    refine (HC.out _).mono ?_
    rintro e w1 ⟨rfl, hd⟩
    have h1 := drawn_below (B := (w.alloc (.cells #[] 33)).heap.size) hd
    go_wp2_with fail
    go_ret
    exact ⟨rfl, below_box h1⟩
end Go.Proofs.Ythbcnieekpjhcaa.Fl
