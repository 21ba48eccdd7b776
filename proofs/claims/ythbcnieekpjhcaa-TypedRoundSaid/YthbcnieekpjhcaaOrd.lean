/- The order of byte strings: what bytesLess says of the codecs' texts. No program in sight. -/
import Derived.Test.YthbcnieekpjhcaaTxt
import Derived.Test.YthbcnieekpjhcaaBool
import Derived.Test.YthbcnieekpjhcaaReads
namespace Go.Proofs.Ythbcnieekpjhcaa.Leaf
open Go.RowKit Go.Proofs.YthbcnieekpjhcaaW.PrintWords Go.Proofs.YthbcnieekpjhcaaW.PrintLast Go.Proofs.YthbcnieekpjhcaaW.PrintMore
set_option linter.unusedVariables false
set_option linter.unusedSimpArgs false

/-- The order of lists of digits. -/
def lessI : List Int → List Int → Bool
  | _, [] => false
  | [], _ :: _ => true
  | a :: x, b :: y => decide (a < b) || (decide (a = b) && lessI x y)
def Digs (l : List Int) : Prop := ∀ d ∈ l, 0 ≤ d ∧ d < 256
def u8 (n : Int) : UInt8 := UInt8.ofNat n.toNat
theorem str_list (l : List Int) : (strOfNums l).toList = l.map u8 := by rw [ByteArray.toList_eq]; rfl
theorem u8_val (a : Int) (h : 0 ≤ a ∧ a < 256) : ((u8 a).toNat : Int) = a := by
  unfold u8
  rw [UInt8.toNat_ofNat']
  omega
theorem u8_lt (a b : Int) (h : 0 ≤ a ∧ a < 256) (k : 0 ≤ b ∧ b < 256) : decide (u8 a < u8 b) = decide (a < b) := by
  have e1 := u8_val a h
  have e2 := u8_val b k
  have : u8 a < u8 b ↔ a < b := by rw [UInt8.lt_iff_toNat_lt]; omega
  simp [this]
theorem u8_eq (a b : Int) (h : 0 ≤ a ∧ a < 256) (k : 0 ≤ b ∧ b < 256) : (u8 a == u8 b) = decide (a = b) := by
  have e1 := u8_val a h
  have e2 := u8_val b k
  by_cases c : a = b
  · subst c; simp
  · rw [decide_eq_false c]
    apply Bool.eq_false_iff.mpr
    intro hh
    have := eq_of_beq hh
    rw [this] at e1
    omega
theorem less_map : ∀ (l m : List Int), Digs l → Digs m → Op.bytesLess (l.map u8) (m.map u8) = lessI l m
  | [], [], _, _ => rfl
  | _ :: _, [], _, _ => by simp [Op.bytesLess, lessI]
  | [], _ :: _, _, _ => by simp [Op.bytesLess, lessI]
  | a :: l, b :: m, h, k => by
    have ih := less_map l m (fun d hd => h d (List.mem_cons_of_mem _ hd)) (fun d hd => k d (List.mem_cons_of_mem _ hd))
    have ha := h a (List.mem_cons_self ..)
    have hb := k b (List.mem_cons_self ..)
    simp only [List.map_cons, Op.bytesLess, lessI]
    rw [ih, u8_eq a b ha hb, u8_lt a b ha hb]
theorem map_inj : ∀ (l m : List Int), Digs l → Digs m → l.map u8 = m.map u8 → l = m
  | [], [], _, _, _ => rfl
  | _ :: _, [], _, _, h => by simp at h
  | [], _ :: _, _, _, h => by simp at h
  | a :: l, b :: m, h, k, e => by
    simp only [List.map_cons, List.cons.injEq] at e
    have ih := map_inj l m (fun d hd => h d (List.mem_cons_of_mem _ hd)) (fun d hd => k d (List.mem_cons_of_mem _ hd)) e.2
    have ha := u8_val a (h a (List.mem_cons_self ..))
    have hb := u8_val b (k b (List.mem_cons_self ..))
    rw [ih]
    congr 1
    rw [e.1] at ha
    omega
theorem str_less (l m : List Int) (h : Digs l) (k : Digs m) : Op.bytesLess (strOfNums l).toList (strOfNums m).toList = lessI l m := by
  rw [str_list, str_list, less_map l m h k]
theorem str_eq (l m : List Int) (h : Digs l) (k : Digs m) : strOfNums l = strOfNums m ↔ l = m := by
  refine ⟨fun e => ?_, fun e => by rw [e]⟩
  have := congrArg ByteArray.toList e
  rw [str_list, str_list] at this
  exact map_inj l m h k this

/-- Digits read as a number. -/
def valI : List Int → Int
  | [] => 0
  | a :: l => a * 256 ^ l.length + valI l
theorem valI_range : ∀ (l : List Int), Digs l → 0 ≤ valI l ∧ valI l < 256 ^ l.length
  | [], _ => by simp [valI]
  | a :: l, h => by
    have ih := valI_range l (fun d hd => h d (List.mem_cons_of_mem _ hd))
    have ha := h a (List.mem_cons_self ..)
    simp only [valI, List.length_cons]
    rw [Int.pow_succ]
    have h2 : a * 256 ^ l.length ≤ 255 * 256 ^ l.length := Int.mul_le_mul_of_nonneg_right (by omega) (by omega)
    have h3 : 0 ≤ a * 256 ^ l.length := Int.mul_nonneg ha.1 (by omega)
    omega
theorem less_val : ∀ (l m : List Int), Digs l → Digs m → l.length = m.length → lessI l m = decide (valI l < valI m) ∧ (l = m ↔ valI l = valI m)
  | [], [], _, _, _ => by simp [lessI, valI]
  | _ :: _, [], _, _, e => by simp at e
  | [], _ :: _, _, _, e => by simp at e
  | a :: l, b :: m, h, k, e => by
    have hl : Digs l := fun d hd => h d (List.mem_cons_of_mem _ hd)
    have hm : Digs m := fun d hd => k d (List.mem_cons_of_mem _ hd)
    have e' : l.length = m.length := by simpa using e
    have ih := less_val l m hl hm e'
    have r1 := valI_range l hl
    have r2 := valI_range m hm
    have hA : valI (a :: l) = a * 256 ^ m.length + valI l := by rw [← e']; rfl
    have hB : valI (b :: m) = b * 256 ^ m.length + valI m := rfl
    rw [e'] at r1
    simp only [lessI]
    rw [ih.1, List.cons.injEq, ih.2]
    clear ih hl hm h k e e'
    generalize valI (a :: l) = A at *
    generalize valI (b :: m) = B at *
    generalize valI l = x at *
    generalize valI m = y at *
    generalize (256 : Int) ^ m.length = p at *
    rcases Int.lt_trichotomy a b with c | c | c
    · have h1 : (a + 1) * p ≤ b * p := Int.mul_le_mul_of_nonneg_right (by omega) (by omega)
      rw [Int.add_mul, Int.one_mul] at h1
      rw [decide_eq_true c, decide_eq_true (show A < B by omega)]
      exact ⟨rfl, by constructor <;> intro hh <;> omega⟩
    · subst c
      refine ⟨?_, by constructor <;> intro hh <;> omega⟩
      by_cases d : x < y
      · rw [decide_eq_true d, decide_eq_true (show A < B by omega)]; simp
      · rw [decide_eq_false d, decide_eq_false (show ¬ A < B by omega)]; simp
    · have h1 : (b + 1) * p ≤ a * p := Int.mul_le_mul_of_nonneg_right (by omega) (by omega)
      rw [Int.add_mul, Int.one_mul] at h1
      rw [decide_eq_false (show ¬ a < b by omega), decide_eq_false (show ¬ a = b by omega), decide_eq_false (show ¬ A < B by omega)]
      exact ⟨rfl, by constructor <;> intro hh <;> omega⟩

def digs8 (x : Int) : List Int := [x / 72057594037927936 % 256, x / 281474976710656 % 256, x / 1099511627776 % 256, x / 4294967296 % 256, x / 16777216 % 256, x / 65536 % 256, x / 256 % 256, x % 256]
theorem digs8_digs (x : Int) : Digs (digs8 x) := by
  intro d hd
  simp only [digs8, List.mem_cons, List.not_mem_nil, or_false] at hd
  rcases hd with h | h | h | h | h | h | h | h <;> omega
theorem digs8_val (x : Int) (h0 : 0 ≤ x) (h1 : x < 18446744073709551616) : valI (digs8 x) = x := by
  simp only [digs8, valI, List.length_cons, List.length_nil]
  simp only [Nat.zero_add, Nat.reduceAdd, Int.reducePow]
  omega
theorem be8_less (x y : Int) (hx : 0 ≤ x ∧ x < 18446744073709551616) (hy : 0 ≤ y ∧ y < 18446744073709551616) : Op.bytesLess (be8 x).toList (be8 y).toList = decide (x < y) := by
  have h := str_less (digs8 x) (digs8 y) (digs8_digs x) (digs8_digs y)
  rw [(less_val _ _ (digs8_digs x) (digs8_digs y) rfl).1, digs8_val x hx.1 hx.2, digs8_val y hy.1 hy.2] at h
  exact h
theorem be8_eq (x y : Int) (hx : 0 ≤ x ∧ x < 18446744073709551616) (hy : 0 ≤ y ∧ y < 18446744073709551616) : be8 x = be8 y ↔ x = y := by
  have h := str_eq (digs8 x) (digs8 y) (digs8_digs x) (digs8_digs y)
  rw [(less_val _ _ (digs8_digs x) (digs8_digs y) rfl).2, digs8_val x hx.1 hx.2, digs8_val y hy.1 hy.2] at h
  exact h
end Go.Proofs.Ythbcnieekpjhcaa.Leaf
