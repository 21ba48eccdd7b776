/- The codecs of whole numbers: what each call of Pack, Unpack, Width and Align returns. -/
import Derived.Test.YthbcnieekpjhcaaNums
import Derived.Outline
import Derived.Lib.Hide
namespace Go.Proofs.Ythbcnieekpjhcaa.Leaf
open Go.RowKit Go.Proofs.YthbcnieekpjhcaaW.PrintWords Go.Proofs.YthbcnieekpjhcaaW.PrintLast Go.Proofs.YthbcnieekpjhcaaW.PrintMore
set_option linter.unusedVariables false
set_option linter.unusedSimpArgs false

theorem bytes_call (x : Int) (w : World) : Calls Try.prog 38 #[.int .u64 x] w fun e w' => e = .returned (.string (be8 x)) ∧ Below w.heap.size w w' :=
  typed_bytes.calls 9 x _ w (bytes_f x)

theorem drawn_below {B : Nat} {w w' : World} (h : Drawn0 w w') : Below B w w' := by
  obtain ⟨n, rfl⟩ := h.out
  exact pw_below_drewN (Below.refl _ _) n

theorem number_call (s : ByteArray) (w : World) : Calls Try.prog 46 #[.string s] w fun e w' => e = .returned (.tuple #[.int .u64 (num8 s), .bool (decide (s.size = 8))]) ∧ Drawn0 w w' :=
  typed_number.calls 9 s _ _ w (number_f s)

theorem sign_of_wrap (v : Int) (h0 : -9223372036854775808 ≤ v) (h1 : v ≤ 9223372036854775807) :
    Go.bits .xor .u64 (IntKind.u64.wrap v) 9223372036854775808 = v + 9223372036854775808 := by
  by_cases h : 0 ≤ v
  · rw [IntWalk.u64_in v (by omega), xor_sign _ (by omega) (by omega), if_pos (by omega)]
  · have e : IntKind.u64.wrap v = v + 18446744073709551616 := by rw [IntKind.wrap_u64]; omega
    rw [e, xor_sign _ (by omega) (by omega), if_neg (by omega)]; omega

theorem wrap_of_sign (x : Int) (h0 : 0 ≤ x) (h1 : x < 18446744073709551616) :
    IntKind.i64.wrap (Go.bits .xor .u64 x 9223372036854775808) = x - 9223372036854775808 := by
  rw [xor_sign x h0 h1, IntKind.wrap_i64]; split <;> omega

/-- behind a boxed receiver and a callee that makes memory of its own -/
theorem below_box {w w' : World} {o : Obj} (h : Below (w.alloc o).heap.size (w.alloc o) w') : Below w.heap.size w w' :=
  ((Below.refl _ _).alloc (Nat.le_refl _) o).trans (h.mono (by simp))
theorem below_box0 {w : World} {o : Obj} : Below w.heap.size w (w.alloc o) := (Below.refl _ _).alloc (Nat.le_refl _) o

theorem int_pack (v : Int) (w : World) (h0 : -9223372036854775808 ≤ v) (h1 : v ≤ 9223372036854775807) :
    Calls Try.prog 9 #[.agg #[], .int .i64 v] w fun e w' => e = .returned (.tuple #[.string (be8 (v + 9223372036854775808)), .bool true]) ∧ Below w.heap.size w w' := by
  have hx := sign_of_wrap v h0 h1
  go_enter Try.func9, Try.ntmps9
  go_wp2_with fail
  refine (bytes_call _ _).mono ?_
  rintro e w' ⟨rfl, hb⟩
  go_wp2_with fail
  go_ret2
  exact ⟨rfl, below_box hb⟩

theorem uint_pack (v : Int) (w : World) :
    Calls Try.prog 12 #[.agg #[], .int .u64 v] w fun e w' => e = .returned (.tuple #[.string (be8 v), .bool true]) ∧ Below w.heap.size w w' := by
  go_enter Try.func12, Try.ntmps12
  go_wp2_with fail
  refine (bytes_call _ _).mono ?_
  rintro e w' ⟨rfl, hb⟩
  go_wp2_with fail
  go_ret2
  exact ⟨rfl, below_box hb⟩

/-- what Int.Unpack returns -/
def int8 (s : ByteArray) : Int := if s.size = 8 then of8 s - 9223372036854775808 else 0

theorem int_unpack (s : ByteArray) (w : World) :
    Calls Try.prog 18 #[.agg #[], .string s] w fun e w' => e = .returned (.int .i64 (int8 s)) ∧ Below w.heap.size w w' := by
  by_cases hs : s.size = 8
  · have hr := of8_range s
    have hx := wrap_of_sign (of8 s) hr.1 hr.2
    have e1 : num8 s = of8 s := by unfold num8; rw [if_pos hs]
    have e2 : int8 s = of8 s - 9223372036854775808 := by unfold int8; rw [if_pos hs]
    have hc := fun w => number_call s w
    rw [e1, show decide (s.size = 8) = true by simp [hs]] at hc
    rw [e2]
    generalize of8 s - 9223372036854775808 = r at *
    generalize of8 s = x at *
    have HC := Lib.hid hc
    clear hc e1 e2 hs hr
    go_enter Try.func18, Try.ntmps18
    go_wp2_with fail
    refine (HC.out _).mono ?_
    rintro e w' ⟨rfl, hb⟩
    have hb := drawn_below (B := (w.alloc (.cells #[] 30)).heap.size) hb
    go_wp2_with fail
    go_ret
    exact ⟨rfl, below_box hb⟩
  · have e1 : num8 s = 0 := by unfold num8; rw [if_neg hs]
    have e2 : int8 s = 0 := by unfold int8; rw [if_neg hs]
    have hc := fun w => number_call s w
    rw [e1, show decide (s.size = 8) = false by simp [hs]] at hc
    rw [e2]
    have HC := Lib.hid hc
    clear hc e1 e2 hs
    go_enter Try.func18, Try.ntmps18
    go_wp2_with fail
    refine (HC.out _).mono ?_
    rintro e w' ⟨rfl, hb⟩
    have hb := drawn_below (B := (w.alloc (.cells #[] 30)).heap.size) hb
    go_wp2_with fail
    go_ret
    exact ⟨rfl, below_box hb⟩

theorem uint_unpack (s : ByteArray) (w : World) :
    Calls Try.prog 19 #[.agg #[], .string s] w fun e w' => e = .returned (.int .u64 (num8 s)) ∧ Below w.heap.size w w' := by
  go_enter Try.func19, Try.ntmps19
  go_wp2_with fail
  refine (number_call _ _).mono ?_
  rintro e w' ⟨rfl, hb⟩
  have hb := drawn_below (B := (w.alloc (.cells #[] 37)).heap.size) hb
  go_wp2_with fail
  go_ret
  exact ⟨rfl, below_box hb⟩

theorem int_width (w : World) : Calls Try.prog 32 #[.agg #[]] w fun e w' => e = .returned (.int .i64 8) ∧ Below w.heap.size w w' := by
  go_enter Try.func32, Try.ntmps32
  go_wp2_with fail
  go_ret
  exact ⟨rfl, below_box0⟩
theorem int_align (w : World) : Calls Try.prog 33 #[.agg #[]] w fun e w' => e = .returned (.int .i64 8) ∧ Below w.heap.size w w' := by
  go_enter Try.func33, Try.ntmps33
  go_wp2_with fail
  go_ret
  exact ⟨rfl, below_box0⟩
theorem uint_width (w : World) : Calls Try.prog 34 #[.agg #[]] w fun e w' => e = .returned (.int .i64 8) ∧ Below w.heap.size w w' := by
  go_enter Try.func34, Try.ntmps34
  go_wp2_with fail
  go_ret
  exact ⟨rfl, below_box0⟩
theorem uint_align (w : World) : Calls Try.prog 35 #[.agg #[]] w fun e w' => e = .returned (.int .i64 8) ∧ Below w.heap.size w w' := by
  go_enter Try.func35, Try.ntmps35
  go_wp2_with fail
  go_ret
  exact ⟨rfl, below_box0⟩

/-! The reference's. -/
theorem ref_pack (v : Int) (w : World) (h0 : -9223372036854775808 ≤ v) (h1 : v ≤ 9223372036854775807) :
    Calls Try.prog 30 #[.int .i64 v] w fun e w' => e = .returned (.string (be8 (v + 9223372036854775808))) ∧ Below w.heap.size w w' :=
  larderref21_PackInt.calls 9 v _ w (ref_pack_f v h0 h1)
theorem ref_bytes (x : Int) (w : World) (h0 : 0 ≤ x) (h1 : x < 18446744073709551616) :
    Calls Try.prog 31 #[.int .u64 x] w fun e w' => e = .returned (.string (be8 x)) ∧ Below w.heap.size w w' :=
  larderref21_Bytes.calls 9 x _ w (ref_bytes_f x h0 h1)
theorem ref_number (s : ByteArray) (w : World) : Calls Try.prog 37 #[.string s] w fun e w' => e = .returned (.int .u64 (num8 s)) ∧ Below w.heap.size w w' :=
  (larderref21_Number.calls 9 s _ w (ref_number_f s)).mono fun _ _ h => ⟨h.1, drawn_below h.2⟩
theorem ref_unpack (s : ByteArray) (w : World) : Calls Try.prog 36 #[.string s] w fun e w' => e = .returned (.int .i64 (int8 s)) ∧ Below w.heap.size w w' :=
  (larderref21_UnpackInt.calls 9 s _ w (ref_unpack_f s)).mono fun _ _ h => ⟨h.1, drawn_below h.2⟩
end Go.Proofs.Ythbcnieekpjhcaa.Leaf
