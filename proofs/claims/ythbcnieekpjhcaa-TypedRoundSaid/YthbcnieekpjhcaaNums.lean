/- Numbers as eight bytes and back, in plain arithmetic: what the leaf functions of the codec and of its reference compute is one and the same. -/
import Derived.Test.YthbcnieekpjhcaaLeaf
import Derived.Laws.BitsAllLaws
namespace Go.Proofs.Ythbcnieekpjhcaa.Leaf
open Go.RowKit Go.Proofs.YthbcnieekpjhcaaW.PrintWords Go.Proofs.YthbcnieekpjhcaaW.PrintLast Go.Proofs.YthbcnieekpjhcaaW.PrintMore

/-- A number's eight bytes, the highest first. -/
def be8 (x : Int) : ByteArray := strOfNums [x / 72057594037927936 % 256, x / 281474976710656 % 256, x / 1099511627776 % 256, x / 4294967296 % 256, x / 16777216 % 256, x / 65536 % 256, x / 256 % 256, x % 256]

/-- The number of eight bytes. -/
def of8 (s : ByteArray) : Int := bt s 0 * 72057594037927936 + bt s 1 * 281474976710656 + bt s 2 * 1099511627776 + bt s 3 * 4294967296 + bt s 4 * 16777216 + bt s 5 * 65536 + bt s 6 * 256 + bt s 7
def num8 (s : ByteArray) : Int := if s.size = 8 then of8 s else 0

theorem bt_range (s : ByteArray) (i : Int) : 0 ≤ bt s i ∧ bt s i < 256 := by
  unfold bt
  split
  · have := UInt8.toNat_lt (s[i.toNat]'(by assumption)); omega
  · omega

theorem of8_range (s : ByteArray) : 0 ≤ of8 s ∧ of8 s < 18446744073709551616 := by
  have h0 := bt_range s 0; have h1 := bt_range s 1; have h2 := bt_range s 2; have h3 := bt_range s 3
  have h4 := bt_range s 4; have h5 := bt_range s 5; have h6 := bt_range s 6; have h7 := bt_range s 7
  unfold of8; omega
theorem num8_range (s : ByteArray) : 0 ≤ num8 s ∧ num8 s < 18446744073709551616 := by
  unfold num8; split
  · exact of8_range s
  · omega

theorem bytes_f (x : Int) : typed_bytes.f 9 x = some (be8 x) := by
  have e : (8 : Int) ≤ 281474976710656 := by omega
  unfold typed_bytes.f
  simp [typed_bytes.l0, wrap64, shr, be8, IntKind.bits]

theorem strOfNums_append (l m : List Int) : strOfNums l ++ strOfNums m = strOfNums (l ++ m) := by
  unfold strOfNums
  rw [List.map_append]
  apply ByteArray.ext
  simp
theorem strOfNums_size (l : List Int) : (strOfNums l).size = l.length := by
  unfold strOfNums ByteArray.size; simp

theorem ref_step (k : Nat) (x i : Int) (l : List Int) (h0 : 0 ≤ x) (h1 : x < 18446744073709551616) (hi0 : 0 ≤ i) (hi : i < 8) (hl : l.length ≤ 8) :
    larderref21_Bytes.l0 (k + 1) x (strOfNums l) i = larderref21_Bytes.l0 k (x / 256) (strOfNums ((x % 256) :: l)) (i + 1) := by
  have e1 : Int.tmod x 256 % 256 = x % 256 := by rw [Int.tmod_eq_emod_of_nonneg h0]; omega
  have e2 : IntKind.u64.wrap (Int.tdiv x 256) = x / 256 := by rw [Int.tdiv_eq_ediv_of_nonneg h0]; exact IntWalk.u64_in _ (by omega)
  have e3 : wrap64 (i + 1) = i + 1 := by unfold wrap64; omega
  rw [larderref21_Bytes.l0, if_pos hi, Option.bind_some, e1, e2, e3, strOfNums_append, if_pos]
  · rfl
  · rw [strOfNums_size, strOfNums_size]; simp; omega

theorem ref_bytes_f (x : Int) (h0 : 0 ≤ x) (h1 : x < 18446744073709551616) : larderref21_Bytes.f 9 x = some (be8 x) := by
  unfold larderref21_Bytes.f
  rw [show (⟨#[]⟩ : ByteArray) = strOfNums [] from rfl]
  rw [ref_step 8 x 0 _ h0 h1 (by omega) (by omega) (by simp)]
  rw [ref_step 7 _ _ _ (by omega) (by omega) (by omega) (by omega) (by simp)]
  rw [ref_step 6 _ _ _ (by omega) (by omega) (by omega) (by omega) (by simp)]
  rw [ref_step 5 _ _ _ (by omega) (by omega) (by omega) (by omega) (by simp)]
  rw [ref_step 4 _ _ _ (by omega) (by omega) (by omega) (by omega) (by simp)]
  rw [ref_step 3 _ _ _ (by omega) (by omega) (by omega) (by omega) (by simp)]
  rw [ref_step 2 _ _ _ (by omega) (by omega) (by omega) (by omega) (by simp)]
  rw [ref_step 1 _ _ _ (by omega) (by omega) (by omega) (by omega) (by simp)]
  rw [larderref21_Bytes.l0, if_neg (by omega)]
  have d2 : x / 256 / 256 = x / 65536 := by omega
  have d3 : x / 65536 / 256 = x / 16777216 := by omega
  have d4 : x / 16777216 / 256 = x / 4294967296 := by omega
  have d5 : x / 4294967296 / 256 = x / 1099511627776 := by omega
  have d6 : x / 1099511627776 / 256 = x / 281474976710656 := by omega
  have d7 : x / 281474976710656 / 256 = x / 72057594037927936 := by omega
  rw [d2, d3, d4, d5, d6, d7]
  rfl

theorem ref_pack_f (v : Int) (h0 : -9223372036854775808 ≤ v) (h1 : v ≤ 9223372036854775807) : larderref21_PackInt.f 9 v = some (be8 (v + 9223372036854775808)) := by
  unfold larderref21_PackInt.f
  by_cases h : v < 0
  · rw [if_pos h]
    have e : IntKind.u64.wrap (IntKind.u64.wrap (9223372036854775808 - IntKind.u64.wrap (wrap64 (-wrap64 (v + 1)))) - 1) = v + 9223372036854775808 := by
      have e1 : wrap64 (v + 1) = v + 1 := by unfold wrap64; omega
      have e2 : wrap64 (-(v + 1)) = -(v + 1) := by unfold wrap64; omega
      rw [e1, e2, IntWalk.u64_in (-(v + 1)) (by omega), IntWalk.u64_in (9223372036854775808 - -(v + 1)) (by omega), IntWalk.u64_in _ (by omega)]; omega
    rw [e, ref_bytes_f _ (by omega) (by omega)]; rfl
  · rw [if_neg h]
    have e : IntKind.u64.wrap (9223372036854775808 + IntKind.u64.wrap v) = v + 9223372036854775808 := by
      rw [IntWalk.u64_in v (by omega), IntWalk.u64_in _ (by omega)]; omega
    rw [e, ref_bytes_f _ (by omega) (by omega)]; rfl

/-- one round of the program's number: x << 8 | b. -/
theorem or_byte (x b : Int) (h0 : 0 ≤ x) (h1 : x < 72057594037927936) (b0 : 0 ≤ b) (b1 : b < 256) :
    Go.bits .or .u64 (IntKind.u64.wrap (x * 256)) (IntKind.u64.wrap b) = x * 256 + b := by
  rw [IntWalk.u64_in (x * 256) (by omega), IntWalk.u64_in b (by omega), u64_or _ _ (by omega) (by omega) (by omega) (by omega)]
  obtain ⟨n, rfl⟩ := Int.eq_ofNat_of_zero_le h0
  obtain ⟨m, rfl⟩ := Int.eq_ofNat_of_zero_le b0
  have e : ((n : Int) * 256).toNat = n * 2 ^ 8 := by omega
  rw [e, Int.toNat_natCast]
  have := Nat.two_pow_add_eq_or_of_lt (i := 8) (b := m) (by omega) n
  rw [Nat.mul_comm] at this
  rw [← this]; omega

theorem num_step (k : Nat) (s : ByteArray) (x i j : Int) (hj : j = i + 1) (hs : s.size = 8) (h0 : 0 ≤ x) (h1 : x < 72057594037927936) (hi0 : 0 ≤ i) (hi : i < 8) :
    typed_number.l0 (k + 1) s x (s.size : Int) i = typed_number.l0 k s (x * 256 + bt s i) (s.size : Int) j := by
  subst hj
  have e3 : wrap64 (i + 1) = i + 1 := by unfold wrap64; omega
  have hb := bt_range s i
  rw [typed_number.l0, if_pos (by omega), if_pos hi0, if_pos (by omega), e3, or_byte x _ h0 h1 hb.1 hb.2]

theorem number_f (s : ByteArray) : typed_number.f 9 s = some (num8 s, decide (s.size = 8)) := by
  unfold typed_number.f num8
  by_cases hs : s.size = 8
  · rw [if_pos (by omega), if_pos hs]
    have h0 := bt_range s 0; have h1 := bt_range s 1; have h2 := bt_range s 2; have h3 := bt_range s 3
    have h4 := bt_range s 4; have h5 := bt_range s 5; have h6 := bt_range s 6; have h7 := bt_range s 7
    rw [num_step 8 s 0 0 1 (by omega) hs (by omega) (by omega) (by omega) (by omega)]
    rw [num_step 7 s _ 1 2 (by omega) hs (by omega) (by omega) (by omega) (by omega)]
    rw [num_step 6 s _ 2 3 (by omega) hs (by omega) (by omega) (by omega) (by omega)]
    rw [num_step 5 s _ 3 4 (by omega) hs (by omega) (by omega) (by omega) (by omega)]
    rw [num_step 4 s _ 4 5 (by omega) hs (by omega) (by omega) (by omega) (by omega)]
    rw [num_step 3 s _ 5 6 (by omega) hs (by omega) (by omega) (by omega) (by omega)]
    rw [num_step 2 s _ 6 7 (by omega) hs (by omega) (by omega) (by omega) (by omega)]
    rw [num_step 1 s _ 7 8 (by omega) hs (by omega) (by omega) (by omega) (by omega)]
    rw [typed_number.l0, if_neg (by omega)]
    simp only [hs, decide_true, Option.some.injEq, Prod.mk.injEq, and_true]
    unfold of8
    omega
  · rw [if_neg (by omega), if_neg hs]; simp [hs]

theorem ref_num_step (k : Nat) (s : ByteArray) (x i j : Int) (hj : j = i + 1) (hs : s.size = 8) (h0 : 0 ≤ x) (h1 : x < 72057594037927936) (hi0 : 0 ≤ i) (hi : i < 8) :
    larderref21_Number.l0 (k + 1) s x i = larderref21_Number.l0 k s (x * 256 + bt s i) j := by
  subst hj
  have e3 : wrap64 (i + 1) = i + 1 := by unfold wrap64; omega
  have hb := bt_range s i
  rw [larderref21_Number.l0, if_pos (by omega), if_pos hi0, if_pos (by omega), e3, IntWalk.u64_in (x * 256) (by omega), IntWalk.u64_in (bt s i) (by omega), IntWalk.u64_in _ (by omega)]

theorem ref_number_f (s : ByteArray) : larderref21_Number.f 9 s = some (num8 s) := by
  unfold larderref21_Number.f num8
  by_cases hs : s.size = 8
  · rw [if_pos (by omega), if_pos hs]
    have h0 := bt_range s 0; have h1 := bt_range s 1; have h2 := bt_range s 2; have h3 := bt_range s 3
    have h4 := bt_range s 4; have h5 := bt_range s 5; have h6 := bt_range s 6; have h7 := bt_range s 7
    rw [ref_num_step 8 s 0 0 1 (by omega) hs (by omega) (by omega) (by omega) (by omega)]
    rw [ref_num_step 7 s _ 1 2 (by omega) hs (by omega) (by omega) (by omega) (by omega)]
    rw [ref_num_step 6 s _ 2 3 (by omega) hs (by omega) (by omega) (by omega) (by omega)]
    rw [ref_num_step 5 s _ 3 4 (by omega) hs (by omega) (by omega) (by omega) (by omega)]
    rw [ref_num_step 4 s _ 4 5 (by omega) hs (by omega) (by omega) (by omega) (by omega)]
    rw [ref_num_step 3 s _ 5 6 (by omega) hs (by omega) (by omega) (by omega) (by omega)]
    rw [ref_num_step 2 s _ 6 7 (by omega) hs (by omega) (by omega) (by omega) (by omega)]
    rw [ref_num_step 1 s _ 7 8 (by omega) hs (by omega) (by omega) (by omega) (by omega)]
    rw [larderref21_Number.l0, if_neg (by omega)]
    simp only [Option.some.injEq]
    unfold of8
    omega
  · rw [if_neg (by omega), if_neg hs]

theorem ref_unpack_f (s : ByteArray) : larderref21_UnpackInt.f 9 s = some (if s.size = 8 then of8 s - 9223372036854775808 else 0) := by
  unfold larderref21_UnpackInt.f
  by_cases hs : s.size = 8
  · have hr := of8_range s
    rw [if_pos (by omega), if_pos hs, ref_number_f, Option.bind_some]
    unfold num8
    rw [if_pos hs]
    by_cases h : of8 s ≥ 9223372036854775808
    · rw [if_pos h, IntWalk.u64_in _ (by omega), IntWalk.wrap64_in _ (by omega)]
    · rw [if_neg h, IntWalk.u64_in _ (by omega), IntWalk.wrap64_in (9223372036854775807 - of8 s) (by omega), IntWalk.wrap64_in (-(9223372036854775807 - of8 s)) (by omega), IntWalk.wrap64_in _ (by omega)]
      congr 1; omega
  · rw [if_neg (by omega), if_neg hs]

/-- the sign bit turned: of a number that fits 64 bits. -/
theorem xor_sign (x : Int) (h0 : 0 ≤ x) (h1 : x < 18446744073709551616) :
    Go.bits .xor .u64 x 9223372036854775808 = if x < 9223372036854775808 then x + 9223372036854775808 else x - 9223372036854775808 := by
  rw [u64_xor _ _ h0 h1 (by omega) (by omega)]
  obtain ⟨n, rfl⟩ := Int.eq_ofNat_of_zero_le h0
  rw [Int.toNat_natCast, show (9223372036854775808 : Int).toNat = 2 ^ 63 from rfl]
  have key : ∀ m : Nat, m < 2 ^ 63 → m ^^^ 2 ^ 63 = m + 2 ^ 63 := by
    intro m hm
    have a := Nat.two_pow_add_eq_or_of_lt (i := 63) (b := m) hm 1
    have b : m ^^^ 2 ^ 63 = m ||| 2 ^ 63 := by
      apply Nat.eq_of_testBit_eq
      intro i
      rw [Nat.testBit_xor, Nat.testBit_or, Nat.testBit_two_pow]
      by_cases hi : 63 = i
      · subst hi; rw [Nat.testBit_lt_two_pow hm]; simp
      · simp [hi]
    rw [Nat.mul_one] at a
    rw [b, Nat.or_comm, ← a]; omega
  by_cases h : (n : Int) < 9223372036854775808
  · rw [if_pos h, key n (by omega)]; omega
  · rw [if_neg h]
    obtain ⟨m, hm⟩ : ∃ m, n = m + 2 ^ 63 := ⟨n - 2 ^ 63, by omega⟩
    have hm' : m < 2 ^ 63 := by omega
    rw [hm, ← key m hm', Nat.xor_assoc, Nat.xor_self, Nat.xor_zero]
    rw [key m hm']
    omega
end Go.Proofs.Ythbcnieekpjhcaa.Leaf
