/- What is laid and read again is the value: plain Lean, no program in sight. -/
import Derived.Test.YthbcnieekpjhcaaOrdB
import Derived.Test.YthbcnieekpjhcaaFloatC
namespace Go.Proofs.Ythbcnieekpjhcaa.Leaf
open Go.RowKit Go.Proofs.YthbcnieekpjhcaaW.PrintWords Go.Proofs.YthbcnieekpjhcaaW.PrintLast Go.Proofs.YthbcnieekpjhcaaW.PrintMore Go.Proofs.Ythbcnieekpjhcaa.Fl
set_option linter.unusedVariables false
set_option linter.unusedSimpArgs false

theorem bt_str (l : List Int) (h : Digs l) (k : Nat) (hk : k < l.length) : bt (strOfNums l) (k : Int) = l[k] := by
  have hs : k < (strOfNums l).size := by rw [strOfNums_size]; exact hk
  have e := bt_at (strOfNums l) (k : Int)
  have e2 := e (by simpa using hs)
  rw [← e2]
  have hd := h l[k] (List.getElem_mem hk)
  have : ((strOfNums l)[(k : Int).toNat]'(by simpa using hs)) = u8 l[k] := by
    show (strOfNums l).data[(k : Int).toNat]'(by simpa using hs) = _
    simp [strOfNums, u8]
  rw [this]
  exact u8_val _ hd

theorem of8_be8 (x : Int) (h0 : 0 ≤ x) (h1 : x < 18446744073709551616) : of8 (be8 x) = x := by
  have hd := digs8_digs x
  have b := fun k hk => bt_str (digs8 x) hd k hk
  have e : be8 x = strOfNums (digs8 x) := rfl
  have b0 := b 0 (by simp [digs8])
  have b1 := b 1 (by simp [digs8])
  have b2 := b 2 (by simp [digs8])
  have b3 := b 3 (by simp [digs8])
  have b4 := b 4 (by simp [digs8])
  have b5 := b 5 (by simp [digs8])
  have b6 := b 6 (by simp [digs8])
  have b7 := b 7 (by simp [digs8])
  unfold of8
  rw [e]
  simp only [digs8, List.getElem_cons_zero, List.getElem_cons_succ] at b0 b1 b2 b3 b4 b5 b6 b7
  simp only [digs8]
  rw [show ((0 : Int)) = ((0 : Nat) : Int) from rfl, b0, show ((1 : Int)) = ((1 : Nat) : Int) from rfl, b1, show ((2 : Int)) = ((2 : Nat) : Int) from rfl, b2, show ((3 : Int)) = ((3 : Nat) : Int) from rfl, b3, show ((4 : Int)) = ((4 : Nat) : Int) from rfl, b4, show ((5 : Int)) = ((5 : Nat) : Int) from rfl, b5, show ((6 : Int)) = ((6 : Nat) : Int) from rfl, b6, show ((7 : Int)) = ((7 : Nat) : Int) from rfl, b7]
  omega
theorem num8_be8 (x : Int) (h0 : 0 ≤ x) (h1 : x < 18446744073709551616) : num8 (be8 x) = x := by
  unfold num8; rw [if_pos (by unfold be8; rw [strOfNums_size]; rfl), of8_be8 x h0 h1]
theorem int8_be8 (i : Int) (h0 : -9223372036854775808 ≤ i) (h1 : i ≤ 9223372036854775807) : int8 (be8 (i + 9223372036854775808)) = i := by
  unfold int8; rw [if_pos (by unfold be8; rw [strOfNums_size]; rfl), of8_be8 _ (by omega) (by omega)]; omega
theorem unpackB_packB (b : Bool) : unpackB (packB b) = b := by cases b <;> decide +kernel

theorem unf_nan (f : Nat) (h : f < 18446744073709551616) (hn : ¬ f % 9223372036854775808 ≤ 9218868437227405312) : unf (be8 (fkey f)) = nanWord := by
  have e : fkey f = 18446744073709551615 := by unfold fkey; rw [if_neg hn]
  unfold unf
  rw [if_pos (by unfold be8; rw [strOfNums_size]; rfl), e, of8_be8 _ (by omega) (by omega), if_pos rfl]
theorem unf_zero (f : Nat) (h : f < 18446744073709551616) (hn : f % 9223372036854775808 = 0) : unf (be8 (fkey f)) = 0 := by
  have e : fkey f = 9223372036854775808 := by unfold fkey; rw [if_pos (by omega), if_pos hn]
  unfold unf
  rw [if_pos (by unfold be8; rw [strOfNums_size]; rfl), e, of8_be8 _ (by omega) (by omega), if_neg (by omega), if_pos (by omega)]; rfl
theorem unf_num (f : Nat) (h : f < 18446744073709551616) (hn : f % 9223372036854775808 ≤ 9218868437227405312) (hz : f % 9223372036854775808 ≠ 0) : unf (be8 (fkey f)) = f := by
  unfold unf
  have r := fkey_range f h
  rw [if_pos (by unfold be8; rw [strOfNums_size]; rfl), of8_be8 _ r.1 r.2]
  have e : fkey f = if f < 9223372036854775808 then (f : Int) + 9223372036854775808 else 18446744073709551615 - (f : Int) := by unfold fkey; rw [if_pos hn, if_neg hz]
  rw [e]
  by_cases c : f < 9223372036854775808
  · rw [if_pos c, if_neg (by omega), if_pos (by omega)]; omega
  · rw [if_neg c, if_neg (by omega), if_neg (by omega)]; omega

theorem unpackT_packT (m : Int) (s : ByteArray) (h : textIn m s = true) : unpackT m (packT m s) = s := by
  have hp : packT m s = textOf m s := by unfold packT; rw [if_pos h]
  unfold textIn at h
  simp only [Bool.and_eq_true, decide_eq_true_eq] at h
  obtain ⟨h0, h1, h2⟩ := h
  rw [hp]
  have hsz := textOf_size' m s h0 h2
  have hd : Digs (b2l s ++ (List.replicate (m.toNat - s.size) 0 ++ [(s.size : Int)])) := by
    have := padI_digs m.toNat s.size (b2l s) (b2l_digs s) (by omega)
    unfold padI at this
    rwa [b2l_length] at this
  have hl : m.toNat < (b2l s ++ (List.replicate (m.toNat - s.size) 0 ++ [(s.size : Int)])).length := by simp [b2l_length]; omega
  have hb : bt (textOf m s) m = s.size := by
    have := bt_str _ hd m.toNat hl
    rw [show ((m.toNat : Nat) : Int) = m by omega] at this
    unfold textOf
    rw [this, List.getElem_append_right (by rw [b2l_length]; omega), List.getElem_append_right (by simp [b2l_length])]
    simp [b2l_length]
  unfold unpackT
  rw [hb, if_pos ⟨h0, h1, hsz, h2⟩]
  have e : textOf m s = s ++ strOfNums (List.replicate (m.toNat - s.size) 0 ++ [(s.size : Int)]) := by
    unfold textOf
    rw [← strOfNums_append, str_b2l]
  rw [e]
  exact ByteArray.extract_append_eq_left rfl
theorem textOf_width (m : Int) (s : ByteArray) (h : textIn m s = true) : ((packT m s).size : Int) = widthT m := by
  have hp : packT m s = textOf m s := by unfold packT; rw [if_pos h]
  unfold textIn at h
  simp only [Bool.and_eq_true, decide_eq_true_eq] at h
  rw [hp, textOf_size' m s h.1 h.2.2]
  unfold widthT
  rw [if_pos ⟨h.1, h.2.1⟩]
end Go.Proofs.Ythbcnieekpjhcaa.Leaf
