/- TypedRound returns true, for every Pair and every greatest length. -/
import Derived.Test.YthbcnieekpjhcaaRndNum
import Derived.Test.YthbcnieekpjhcaaRndNumb
import Derived.Test.YthbcnieekpjhcaaRndZero
import Derived.Test.YthbcnieekpjhcaaRndZerob
import Derived.Test.YthbcnieekpjhcaaRndNan
import Derived.Test.YthbcnieekpjhcaaRndNanb
import Derived.Test.YthbcnieekpjhcaaRndL
namespace Go.Proofs.Ythbcnieekpjhcaa.Leaf
open Go.RowKit Go.Proofs.YthbcnieekpjhcaaW.PrintWords Go.Proofs.YthbcnieekpjhcaaW.PrintLast Go.Proofs.YthbcnieekpjhcaaW.PrintMore Go.Proofs.Ythbcnieekpjhcaa.Fl
set_option linter.unusedVariables false
set_option linter.unusedSimpArgs false

theorem packS_parts (m : Int) (s : ByteArray) (b : Bool) (i : Int) (h : textIn m s = true) : packS m s b i = packT m s ++ (packB b ++ be8 (i + 9223372036854775808)) := by
  unfold packS; rw [if_pos h]
theorem tail9 (b : Bool) (x : Int) : (packB b ++ be8 x).size = 9 := by rw [ByteArray.size_append, be8_size, packB_size]
theorem tail_first (b : Bool) (x : Int) : (packB b ++ be8 x).extract 0 1 = packB b := ByteArray.extract_append_eq_left (packB_size b).symm
theorem tail_rest (b : Bool) (x : Int) : (packB b ++ be8 x).extract 1 (packB b ++ be8 x).size = be8 x := by
  rw [ByteArray.size_append]; exact ByteArray.extract_append_eq_right (packB_size b).symm rfl

theorem sb_back (m : Int) (s : ByteArray) (b : Bool) (i : Int) (w : World) (h : textIn m s = true) (i0 : -9223372036854775808 ≤ i) (i1 : i ≤ 9223372036854775807) :
    Calls Try.prog 26 #[sbV m, .string (packS m s b i)] w fun e w' => e = .returned (tsV s b i) ∧ Below w.heap.size w w' := by
  have hc := sb_unpack m (packS m s b i) (packT m s) (packB b ++ be8 (i + 9223372036854775808)) w (widthT_range m) (packS_parts m s b i h) (textOf_width m s h) (tail9 _ _)
  rw [tail_first, tail_rest, unpackT_packT m s h, unpackB_packB, int8_be8 i i0 i1] at hc
  exact hc
theorem sb_long (m : Int) (s : ByteArray) (b : Bool) (i : Int) (h : textIn m s = true) : (((packS m s b i).size : Int) == widthT m + 9) = true := by
  rw [packS_parts m s b i h, ByteArray.size_append, tail9]
  have := textOf_width m s h
  rw [beq_iff_eq]; omega

theorem zero_left (f : Nat) (hf : f < 18446744073709551616) (h : f % 9223372036854775808 = 0) : FloatKind.f64.format.order 0 f = some .eq := by
  have c : f = 0 ∨ f = 9223372036854775808 := by omega
  rcases c with rfl | rfl <;> decide
theorem nan_not {f : Nat} (hn : ¬ f % 9223372036854775808 ≤ 9218868437227405312) (hf : f < 18446744073709551616) :
    (∀ w, Calls Try.prog 15 #[.float .f64 nanWord] w fun e w' => e = .returned (.bool false) ∧ Below w.heap.size w w') ∧
    (∀ w, Calls Try.prog 15 #[.float .f64 f] w fun e w' => e = .returned (.bool false) ∧ Below w.heap.size w w') ∧
    (FloatKind.f64.format.order nanWord f != some .eq) = true ∧ (FloatKind.f64.format.order nanWord 0 == some .eq) = false := by
  have nn : ¬ nanWord % 9223372036854775808 ≤ 9218868437227405312 := by decide
  have nl : nanWord < 18446744073709551616 := by decide
  have a := ord_nan nanWord nanWord nl nn
  have b := ord_nan f f hf hn
  have c := ord_nan nanWord f nl nn
  have d := ord_nan nanWord 0 nl nn
  refine ⟨fun w => ?_, fun w => ?_, ?_, ?_⟩
  · have := number_f64 nanWord w; rwa [a] at this
  · have := number_f64 f w; rwa [b] at this
  · rw [c]; rfl
  · rw [d]; rfl

theorem round_walk (p : Pr) (h : PrOk p) (m : Int) (w : World) : Calls Try.prog 6 #[prV p, .int .i64 m] w fun e w' => e = .returned (.bool true) ∧ Below w.heap.size w w' := by
  have hX := fun w => int_pack p.i w h.i0 h.i1
  have hU := fun w => uint_pack p.u w
  have hF := fun w => float_pack p.f w h.hf
  have hT := fun w => bool_pack p.b w
  have hxu : ∀ w, Calls Try.prog 18 #[.agg #[], .string (be8 (p.i + 9223372036854775808))] w fun e w' => e = .returned (.int .i64 p.i) ∧ Below w.heap.size w w' := fun w => by
    have := int_unpack (be8 (p.i + 9223372036854775808)) w; rwa [int8_be8 p.i h.i0 h.i1] at this
  have huu : ∀ w, Calls Try.prog 19 #[.agg #[], .string (be8 p.u)] w fun e w' => e = .returned (.int .u64 p.u) ∧ Below w.heap.size w w' := fun w => by
    have := uint_unpack (be8 p.u) w; rwa [num8_be8 p.u h.u0 h.u1] at this
  have htu : ∀ w, Calls Try.prog 20 #[.agg #[], .string (packB p.b)] w fun e w' => e = .returned (.bool p.b) ∧ Below w.heap.size w w' := fun w => by
    have := bool_unpack (packB p.b) w; rwa [unpackB_packB] at this
  have hfu := fun w => float_unpack (be8 (fkey p.f)) w
  have hS := fun w => text_pack m p.s w
  have hZ := fun w => sb_pack m p.s p.c p.j w h.j0 h.j1
  by_cases hin : textIn m p.s = true
  · simp only [hin] at hS hZ
    have hm := hin
    unfold textIn at hm
    simp only [Bool.and_eq_true, decide_eq_true_eq] at hm
    obtain ⟨m0, m1, m2⟩ := hm
    have hwm := fun w => text_width m w
    have hsu : ∀ w, Calls Try.prog 24 #[.agg #[.int .i64 m], .string (packT m p.s)] w fun e w' => e = .returned (.string p.s) ∧ Below w.heap.size w w' := fun w => by
      have := text_unpack m (packT m p.s) w; rwa [unpackT_packT m p.s hin] at this
    have hzu := fun w => sb_back m p.s p.c p.j w hin h.j0 h.j1
    have hwz := fun w => sb_width m w
    have es : (((packT m p.s).size : Int) != widthT m) = false := by rw [textOf_width m p.s hin]; simp
    have ez := sb_long m p.s p.c p.j hin
    by_cases hn : p.f % 9223372036854775808 ≤ 9218868437227405312
    · by_cases hz : p.f % 9223372036854775808 = 0
      · rw [unf_zero p.f h.hf hz] at hfu
        refine round_zero_in p m _ _ _ _ _ _ 0 _ _ w hX hU hF hT hxu huu htu hfu rfl ?_ hS hwm hsu hZ hzu hwz m0 m1 m2 es ez
        rw [bne, zero_left p.f h.hf hz]; rfl
      · rw [unf_num p.f h.hf hn hz] at hfu
        refine round_num_in p m _ _ _ _ _ _ p.f _ _ w hX hU hF hT hxu huu htu hfu ?_ (ord_ne_zero p.f h.hf hn hz) hS hwm hsu hZ hzu hwz m0 m1 m2 es ez
        rw [bne, ord_refl p.f h.hf hn]; rfl
    · rw [unf_nan p.f h.hf hn] at hfu
      refine round_nan_in p m _ _ _ _ _ _ nanWord _ _ w hX hU hF hT hxu huu htu hfu (nan_not hn h.hf).1 (nan_not hn h.hf).2.1 (nan_not hn h.hf).2.2.1 (nan_not hn h.hf).2.2.2 hS hwm hsu hZ hzu hwz m0 m1 m2 es ez
  · have hin : textIn m p.s = false := by simpa using hin
    simp only [hin] at hS hZ
    have cases : m < 0 ∨ (0 ≤ m ∧ 127 < m) ∨ (0 ≤ m ∧ m ≤ 127 ∧ m < (p.s.size : Int)) := by
      unfold textIn at hin
      simp only [Bool.and_eq_false_iff, decide_eq_false_iff_not] at hin
      omega
    by_cases hn : p.f % 9223372036854775808 ≤ 9218868437227405312
    · by_cases hz : p.f % 9223372036854775808 = 0
      · rw [unf_zero p.f h.hf hz] at hfu
        have o1 : (FloatKind.f64.format.order 0 p.f != some .eq) = false := by rw [bne, zero_left p.f h.hf hz]; rfl
        rcases cases with c | ⟨c0, c1⟩ | ⟨c0, c1, c2⟩
        · exact round_zero_lo p m _ _ _ _ _ _ 0 0 0 w hX hU hF hT hxu huu htu hfu rfl o1 hS hZ (eq_false (by omega))
        · exact round_zero_hi p m _ _ _ _ _ _ 0 0 0 w hX hU hF hT hxu huu htu hfu rfl o1 hS hZ c0 (eq_false (by omega))
        · exact round_zero_long p m _ _ _ _ _ _ 0 0 0 w hX hU hF hT hxu huu htu hfu rfl o1 hS hZ c0 c1 (eq_false (by omega))
      · rw [unf_num p.f h.hf hn hz] at hfu
        have o1 : (FloatKind.f64.format.order p.f p.f != some .eq) = false := by rw [bne, ord_refl p.f h.hf hn]; rfl
        have o2 := ord_ne_zero p.f h.hf hn hz
        rcases cases with c | ⟨c0, c1⟩ | ⟨c0, c1, c2⟩
        · exact round_num_lo p m _ _ _ _ _ _ p.f 0 0 w hX hU hF hT hxu huu htu hfu o1 o2 hS hZ (eq_false (by omega))
        · exact round_num_hi p m _ _ _ _ _ _ p.f 0 0 w hX hU hF hT hxu huu htu hfu o1 o2 hS hZ c0 (eq_false (by omega))
        · exact round_num_long p m _ _ _ _ _ _ p.f 0 0 w hX hU hF hT hxu huu htu hfu o1 o2 hS hZ c0 c1 (eq_false (by omega))
    · rw [unf_nan p.f h.hf hn] at hfu
      obtain ⟨n1, n2, o1, o2⟩ := nan_not hn h.hf
      rcases cases with c | ⟨c0, c1⟩ | ⟨c0, c1, c2⟩
      · exact round_nan_lo p m _ _ _ _ _ _ nanWord 0 0 w hX hU hF hT hxu huu htu hfu n1 n2 o1 o2 hS hZ (eq_false (by omega))
      · exact round_nan_hi p m _ _ _ _ _ _ nanWord 0 0 w hX hU hF hT hxu huu htu hfu n1 n2 o1 o2 hS hZ c0 (eq_false (by omega))
      · exact round_nan_long p m _ _ _ _ _ _ nanWord 0 0 w hX hU hF hT hxu huu htu hfu n1 n2 o1 o2 hS hZ c0 c1 (eq_false (by omega))
end Go.Proofs.Ythbcnieekpjhcaa.Leaf
