/- The reference's PackFloat and UnpackFloat, and the law's 'reads': true of what Float.Unpack returns, for any bytes. -/
import Derived.Test.YthbcnieekpjhcaaFloatC
set_option linter.unusedVariables false
set_option linter.unusedSimpArgs false
namespace Go.Proofs.Ythbcnieekpjhcaa.Fl
open Go.RowKit Go.Proofs.Ythbcnieekpjhcaa.Leaf

theorem ref_pack_float (b : Int) (w : World) (h0 : 0 ≤ b) (h : b < 18446744073709551616) :
    Calls Try.prog 39 #[.int .u64 b] w fun e w' => e = .returned (.string (be8 (if b < 9223372036854775808 then b + 9223372036854775808 else 18446744073709551615 - b))) ∧ Below w.heap.size w w' := by
  by_cases c : b < 9223372036854775808
  · rw [if_pos c]
    have HC := Lib.hid (fun w => ref_bytes (b + 9223372036854775808) w (by omega) (by omega))
    go_enter Try.func39, Try.ntmps39
    go_wp2_with fail
    refine (HC.out _).mono ?_
    rintro e w1 ⟨rfl, h1⟩
    go_wp2_with fail
    go_ret
    exact ⟨rfl, h1⟩
  · rw [if_neg c]
    have HC := Lib.hid (fun w => ref_bytes (18446744073709551615 - b) w (by omega) (by omega))
    go_enter Try.func39, Try.ntmps39
    go_wp2_with fail
    refine (HC.out _).mono ?_
    rintro e w1 ⟨rfl, h1⟩
    go_wp2_with fail
    go_ret
    exact ⟨rfl, h1⟩

theorem ref_unpack_none (s : ByteArray) (w : World) (hs : s.size ≠ 8 ∨ of8 s = 18446744073709551615) :
    Calls Try.prog 62 #[.string s] w fun e w' => e = .returned (.tuple #[.int .u64 0, .bool false]) ∧ Below w.heap.size w w' := by
  by_cases h8 : s.size = 8
  · have e1 : num8 s = 18446744073709551615 := by unfold num8; rw [if_pos h8]; omega
    have hc := fun w => ref_number s w
    rw [e1] at hc
    have HC := Lib.hid hc
    have t : ((s.size : Int) != 8) = false := by simp [h8]
    clear hc e1 hs h8
    go_enter Try.func62, Try.ntmps62
    go_wp2_with fail
    refine (HC.out _).mono ?_
    rintro e w1 ⟨rfl, h1⟩
    go_wp2_with fail
    go_ret2
    exact ⟨rfl, h1⟩
  · have t : ((s.size : Int) != 8) = true := by simp; omega
    clear hs h8
    go_enter Try.func62, Try.ntmps62
    go_wp2_with fail
    refine (ref_number s _).mono ?_
    rintro e w1 ⟨rfl, h1⟩
    go_wp2_with fail
    go_ret2
    exact ⟨rfl, h1⟩

theorem ref_unpack_some (s : ByteArray) (b : Int) (w : World) (hs : s.size = 8) (hx : of8 s ≠ 18446744073709551615) (hb : b = if 9223372036854775808 ≤ of8 s then of8 s - 9223372036854775808 else 18446744073709551615 - of8 s) :
    Calls Try.prog 62 #[.string s] w fun e w' => e = .returned (.tuple #[.int .u64 b, .bool true]) ∧ Below w.heap.size w w' := by
  have hr := of8_range s
  have e1 : num8 s = of8 s := by unfold num8; rw [if_pos hs]
  have hc := fun w => ref_number s w
  rw [e1] at hc
  have HC := Lib.hid hc
  have t : ((s.size : Int) != 8) = false := by simp [hs]
  have t2 : (of8 s == 18446744073709551615) = false := by simp; omega
  subst hb
  clear hc e1 hs hx
  obtain ⟨r0, r1⟩ := hr
  generalize of8 s = x at *
  by_cases c : (9223372036854775808 : Int) ≤ x
  · rw [if_pos c]
    go_enter Try.func62, Try.ntmps62
    go_wp2_with fail
    refine (HC.out _).mono ?_
    rintro e w1 ⟨rfl, h1⟩
    go_wp2_with fail
    go_ret2
    exact ⟨rfl, h1⟩
  · rw [if_neg c]
    go_enter Try.func62, Try.ntmps62
    go_wp2_with fail
    refine (HC.out _).mono ?_
    rintro e w1 ⟨rfl, h1⟩
    go_wp2_with fail
    go_ret2
    exact ⟨rfl, h1⟩

theorem one_by_zero : floatBits .quo .f64 4607182418800017408 0 = some 9218868437227405312 := by decide
theorem one_by_nzero : floatBits .quo .f64 4607182418800017408 9223372036854775808 = some 18442240474082181120 := by decide
theorem inf_gt : FloatKind.f64.format.order 9218868437227405312 0 = some .gt := by decide
theorem ninf_lt : FloatKind.f64.format.order 18442240474082181120 0 = some .lt := by decide
theorem zero_zero : FloatKind.f64.format.order 0 0 = some .eq := by decide
theorem nzero_zero : FloatKind.f64.format.order 9223372036854775808 0 = some .eq := by decide

set_option maxRecDepth 100000 in
theorem reads_call (s : ByteArray) (w : World) :
    Calls Try.prog 43 #[.float .f64 (unf s), .string s] w fun e w' => e = .returned (.bool true) ∧ Below w.heap.size w w' := by
  have z1 := fun w => run_float_arith (P := Try.prog) w .quo 25 .f64 4607182418800017408 0 _ one_by_zero
  have z2 := inf_gt
  have z3 := zero_zero
  by_cases h8 : s.size = 8
  · have t : ((s.size : Int) != 8) = false := by simp [h8]
    have hr := of8_range s
    by_cases hx : of8 s = 18446744073709551615
    · have ev : unf s = nanWord := by unfold unf; rw [if_pos h8, if_pos hx]
      have on : FloatKind.f64.format.order nanWord nanWord = none := by decide
      rw [ev]
      have HC := Lib.hid (fun w => ref_unpack_none s w (.inr hx))
      generalize nanWord = v at *
      clear h8 hx ev hr
      go_enter Try.func43, Try.ntmps43
      go_wp2_with fail
      refine (HC.out _).mono ?_
      rintro e w1 ⟨rfl, h1⟩
      go_wp2_with fail
      go_ret
      exact ⟨rfl, h1⟩
    · obtain ⟨b, hb⟩ : ∃ b : Nat, (b : Int) = if 9223372036854775808 ≤ of8 s then of8 s - 9223372036854775808 else 18446744073709551615 - of8 s := by
        by_cases c : 9223372036854775808 ≤ of8 s
        · rw [if_pos c]; exact ⟨(of8 s - 9223372036854775808).toNat, by omega⟩
        · rw [if_neg c]; exact ⟨(18446744073709551615 - of8 s).toNat, by omega⟩
      have ev : unf s = b := by
        unfold unf
        rw [if_pos h8, if_neg hx]
        by_cases c : 9223372036854775808 ≤ of8 s
        · rw [if_pos c] at hb ⊢; omega
        · rw [if_neg c] at hb ⊢; omega
      have hb2 : b < 18446744073709551616 := by split at hb <;> omega
      rw [ev]
      have HC := Lib.hid (fun w => ref_unpack_some s b w h8 hx hb)
      clear hb ev hx hr h8
      by_cases n : b % 9223372036854775808 ≤ 9218868437227405312
      · have n2 : ¬ ((b : Int) % 9223372036854775808 > 9218868437227405312) := by omega
        have or := ord_refl b hb2 n
        by_cases nz : b = 9223372036854775808
        · subst nz
          have y1 := fun w => run_float_arith (P := Try.prog) w .quo 25 .f64 4607182418800017408 9223372036854775808 _ one_by_nzero
          have y2 := ninf_lt
          have y3 := nzero_zero
          clear n n2 or hb2
          go_enter Try.func43, Try.ntmps43
          go_wp2_with fail
          refine (HC.out _).mono ?_
          rintro e w1 ⟨rfl, h1⟩
          go_wp2_with fail
          go_ret
          exact ⟨rfl, h1⟩
        · have t2 : ((b : Int) == 9223372036854775808) = false := by simp; omega
          by_cases bz : b = 0
          · subst bz
            have HB := Lib.hid (fun w => bits_call 0 w (by omega) (by unfold isNum; omega))
            clear n n2 or hb2 t2 nz
            go_enter Try.func43, Try.ntmps43
            go_wp2_with fail
            refine (HC.out _).mono ?_
            rintro e w1 ⟨rfl, h1⟩
            go_wp2_with fail
            refine (HB.out _).mono ?_
            rintro e w2 ⟨rfl, rfl⟩
            go_wp2_with fail
            go_ret
            exact ⟨rfl, h1⟩
          · have hz : b % 9223372036854775808 ≠ 0 := by omega
            have oz := ord_ne_zero b hb2 n hz
            have ozn : (FloatKind.f64.format.order b 0 != some .eq) = true := by rw [bne, oz]; rfl
            have hbb := fun w => bits_call b w hb2 n
            have eb : bitsOf b = b := by unfold bitsOf; rw [if_neg hz]
            rw [eb] at hbb
            have HB := Lib.hid hbb
            clear n hb2 nz hbb eb hz bz
            go_enter Try.func43, Try.ntmps43
            go_wp2_with fail
            refine (HC.out _).mono ?_
            rintro e w1 ⟨rfl, h1⟩
            go_wp2_with fail
            refine (HB.out _).mono ?_
            rintro e w2 ⟨rfl, rfl⟩
            go_wp2_with fail
            go_ret
            exact ⟨rfl, h1⟩
      · have n2 : (b : Int) % 9223372036854775808 > 9218868437227405312 := by omega
        have on := ord_nan b b hb2 n
        clear n hb2
        go_enter Try.func43, Try.ntmps43
        go_wp2_with fail
        refine (HC.out _).mono ?_
        rintro e w1 ⟨rfl, h1⟩
        go_wp2_with fail
        go_ret
        exact ⟨rfl, h1⟩
  · have t : ((s.size : Int) != 8) = true := by simp; omega
    have ev : unf s = 0 := by unfold unf; rw [if_neg h8]
    rw [ev]
    clear h8 ev
    go_enter Try.func43, Try.ntmps43
    go_wp2_with fail
    go_ret
    exact ⟨rfl, Below.refl _ _⟩
end Go.Proofs.Ythbcnieekpjhcaa.Fl
