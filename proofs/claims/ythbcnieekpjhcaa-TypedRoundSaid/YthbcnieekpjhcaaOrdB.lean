/- The order of byte strings, second part: texts, pairs, bools, floats. No program in sight. -/
import Derived.Test.YthbcnieekpjhcaaOrd
namespace Go.Proofs.Ythbcnieekpjhcaa.Leaf
open Go.RowKit Go.Proofs.YthbcnieekpjhcaaW.PrintWords Go.Proofs.YthbcnieekpjhcaaW.PrintLast Go.Proofs.YthbcnieekpjhcaaW.PrintMore
set_option linter.unusedVariables false
set_option linter.unusedSimpArgs false

theorem lessI_self : ∀ l : List Int, lessI l l = false
  | [] => rfl
  | a :: l => by simp [lessI, lessI_self l]
theorem lessI_append : ∀ (a b c d : List Int), a.length = b.length → lessI (a ++ c) (b ++ d) = (lessI a b || (decide (a = b) && lessI c d))
  | [], [], c, d, _ => by simp [lessI]
  | _ :: _, [], _, _, e => by simp at e
  | [], _ :: _, _, _, e => by simp at e
  | x :: a, y :: b, c, d, e => by
    have ih := lessI_append a b c d (by simpa using e)
    simp only [List.cons_append, lessI, ih]
    by_cases h : x = y
    · subst h; simp
    · simp [h]
theorem append_eq (a b c d : List Int) (e : a.length = b.length) : a ++ c = b ++ d ↔ a = b ∧ c = d :=
  ⟨fun h => List.append_inj h e, fun h => by rw [h.1, h.2]⟩

/-- A text, filled with zeros to k, then one digit. -/
def padI (k : Nat) (n : Int) (l : List Int) : List Int := l ++ (List.replicate (k - l.length) 0 ++ [n])
theorem pad_nil_less : ∀ (m : List Int) (k : Nat) (c n : Int), m.length ≤ k → c < n → Digs m → lessI (padI k c []) (padI k n m) = true ∧ lessI (padI k n m) (padI k c []) = false
  | [], k, c, n, _, h, _ => by
    have e : ∀ j, lessI (List.replicate j 0 ++ [c]) (List.replicate j 0 ++ [n]) = true ∧ lessI (List.replicate j 0 ++ [n]) (List.replicate j 0 ++ [c]) = false := by
      intro j
      rw [lessI_append _ _ _ _ rfl, lessI_append _ _ _ _ rfl, lessI_self]
      simp [lessI]; omega
    exact e k
  | b :: m, k, c, n, hk, h, hd => by
    obtain ⟨j, rfl⟩ := Nat.exists_eq_add_one_of_ne_zero (by simp at hk; omega : k ≠ 0)
    have ih := pad_nil_less m j c n (by simp at hk; omega) h (fun d hd' => hd d (List.mem_cons_of_mem _ hd'))
    have hb := hd b (List.mem_cons_self ..)
    have e1 : padI (j + 1) c [] = 0 :: padI j c [] := by simp [padI, List.replicate_succ]
    have e2 : padI (j + 1) n (b :: m) = b :: padI j n m := by simp [padI]
    rw [e1, e2]
    simp only [lessI, ih.1, ih.2]
    by_cases h0 : b = 0
    · subst h0; simp
    · simp; omega
theorem pad_less : ∀ (l m : List Int) (k : Nat) (c : Int), l.length ≤ k → m.length ≤ k → Digs l → Digs m → lessI (padI k (c + l.length) l) (padI k (c + m.length) m) = lessI l m
  | [], [], k, c, _, _, _, _ => by rw [lessI_self, lessI_self]
  | [], b :: m, k, c, _, hm, _, dm => by
    have h := (pad_nil_less (b :: m) k (c + 0) (c + (b :: m).length) hm (by simp only [List.length_cons]; omega) dm).1
    simpa [lessI] using h
  | a :: l, [], k, c, hl, _, dl, _ => by
    have h := (pad_nil_less (a :: l) k (c + 0) (c + (a :: l).length) hl (by simp only [List.length_cons]; omega) dl).2
    simpa [lessI] using h
  | a :: l, b :: m, k, c, hl, hm, dl, dm => by
    obtain ⟨j, rfl⟩ := Nat.exists_eq_add_one_of_ne_zero (by simp at hl; omega : k ≠ 0)
    have ih := pad_less l m j (c + 1) (by simp at hl; omega) (by simp at hm; omega) (fun d hd => dl d (List.mem_cons_of_mem _ hd)) (fun d hd => dm d (List.mem_cons_of_mem _ hd))
    have e1 : padI (j + 1) (c + (a :: l).length) (a :: l) = a :: padI j (c + 1 + l.length) l := by
      simp only [padI, List.length_cons, List.cons_append]
      congr 4
      · omega
      · push_cast; omega
    have e2 : padI (j + 1) (c + (b :: m).length) (b :: m) = b :: padI j (c + 1 + m.length) m := by
      simp only [padI, List.length_cons, List.cons_append]
      congr 4
      · omega
      · push_cast; omega
    rw [e1, e2]
    simp only [lessI, ih]
theorem b2l_digs (s : ByteArray) : Digs (b2l s) := by
  intro d hd
  simp only [b2l, List.mem_map] at hd
  obtain ⟨b, -, rfl⟩ := hd
  have := UInt8.toNat_lt b
  omega
theorem padI_digs (k : Nat) (n : Int) (l : List Int) (h : Digs l) (hn : 0 ≤ n ∧ n < 256) : Digs (padI k n l) := by
  intro d hd
  simp only [padI, List.mem_append, List.mem_replicate, List.mem_cons, List.not_mem_nil, or_false] at hd
  rcases hd with h1 | ⟨-, h1⟩ | h1
  · exact h d h1
  · subst h1; omega
  · subst h1; exact hn
theorem textOf_pad (m : Int) (s : ByteArray) : textOf m s = strOfNums (padI m.toNat s.size (b2l s)) := by
  unfold textOf padI; rw [b2l_length]
theorem raw_less (s t : ByteArray) : Op.bytesLess s.toList t.toList = lessI (b2l s) (b2l t) := by
  have h := str_less (b2l s) (b2l t) (b2l_digs s) (b2l_digs t)
  rw [str_b2l, str_b2l] at h
  exact h
theorem text_less (m : Int) (s t : ByteArray) (h0 : 0 ≤ m) (h1 : m ≤ 127) (hs : (s.size : Int) ≤ m) (ht : (t.size : Int) ≤ m) :
    Op.bytesLess (textOf m s).toList (textOf m t).toList = Op.bytesLess s.toList t.toList := by
  rw [textOf_pad, textOf_pad, str_less _ _ (padI_digs _ _ _ (b2l_digs s) (by omega)) (padI_digs _ _ _ (b2l_digs t) (by omega)), raw_less]
  have h := pad_less (b2l s) (b2l t) m.toNat 0 (by rw [b2l_length]; omega) (by rw [b2l_length]; omega) (b2l_digs s) (b2l_digs t)
  rw [b2l_length, b2l_length, Int.zero_add, Int.zero_add] at h
  exact h
theorem text_eq (m : Int) (s t : ByteArray) (h0 : 0 ≤ m) (h1 : m ≤ 127) (hs : (s.size : Int) ≤ m) (ht : (t.size : Int) ≤ m) : textOf m s = textOf m t ↔ s = t := by
  refine ⟨fun h => ?_, fun h => by rw [h]⟩
  rw [textOf_pad, textOf_pad, str_eq _ _ (padI_digs _ _ _ (b2l_digs s) (by omega)) (padI_digs _ _ _ (b2l_digs t) (by omega))] at h
  unfold padI at h
  rw [← List.append_assoc, ← List.append_assoc] at h
  have h2 := List.append_inj' h rfl
  have hsz : (s.size : Int) = t.size := by simpa using h2.2
  have h3 := (List.append_inj h2.1 (by rw [b2l_length, b2l_length]; omega)).1
  rw [← str_b2l s, ← str_b2l t, h3]
theorem textOf_size' (m : Int) (s : ByteArray) (h0 : 0 ≤ m) (hs : (s.size : Int) ≤ m) : ((textOf m s).size : Int) = m + 1 := by
  unfold textOf
  rw [strOfNums_size]
  simp only [List.length_append, List.length_replicate, List.length_cons, List.length_nil, b2l_length]
  omega
theorem packB_less (b c : Bool) : Op.bytesLess (packB b).toList (packB c).toList = (!b && c) := by
  cases b <;> cases c <;> decide +kernel
theorem packB_eq (b c : Bool) : packB b = packB c ↔ b = c := by
  cases b <;> cases c <;> decide +kernel

/-! Pairs of two numbers of eight bytes. -/
theorem pair_less (x y z v : Int) (hx : 0 ≤ x ∧ x < 18446744073709551616) (hy : 0 ≤ y ∧ y < 18446744073709551616) (hz : 0 ≤ z ∧ z < 18446744073709551616) (hv : 0 ≤ v ∧ v < 18446744073709551616) :
    Op.bytesLess (be8 x ++ be8 z).toList (be8 y ++ be8 v).toList = (decide (x < y) || (decide (x = y) && decide (z < v))) := by
  have hd : ∀ a b, Digs (digs8 a ++ digs8 b) := by
    intro a b d h
    rw [List.mem_append] at h
    rcases h with h | h
    · exact digs8_digs a d h
    · exact digs8_digs b d h
  have e : ∀ a b, be8 a ++ be8 b = strOfNums (digs8 a ++ digs8 b) := fun a b => strOfNums_append (digs8 a) (digs8 b)
  rw [e, e, str_less _ _ (hd _ _) (hd _ _), lessI_append (digs8 x) (digs8 y) _ _ rfl]
  have h1 := less_val _ _ (digs8_digs x) (digs8_digs y) rfl
  have h2 := less_val _ _ (digs8_digs z) (digs8_digs v) rfl
  rw [digs8_val x hx.1 hx.2, digs8_val y hy.1 hy.2] at h1
  rw [digs8_val z hz.1 hz.2, digs8_val v hv.1 hv.2] at h2
  rw [h1.1, h2.1]
  simp only [h1.2]
theorem pair_eq (x y z v : Int) (hx : 0 ≤ x ∧ x < 18446744073709551616) (hy : 0 ≤ y ∧ y < 18446744073709551616) (hz : 0 ≤ z ∧ z < 18446744073709551616) (hv : 0 ≤ v ∧ v < 18446744073709551616) :
    be8 x ++ be8 z = be8 y ++ be8 v ↔ x = y ∧ z = v := by
  have hd : ∀ a b, Digs (digs8 a ++ digs8 b) := by
    intro a b d h
    rw [List.mem_append] at h
    rcases h with h | h
    · exact digs8_digs a d h
    · exact digs8_digs b d h
  have e : ∀ a b, be8 a ++ be8 b = strOfNums (digs8 a ++ digs8 b) := fun a b => strOfNums_append (digs8 a) (digs8 b)
  rw [e, e, str_eq _ _ (hd _ _) (hd _ _), append_eq (digs8 x) (digs8 y) _ _ rfl]
  have h1 := less_val _ _ (digs8_digs x) (digs8_digs y) rfl
  have h2 := less_val _ _ (digs8_digs z) (digs8_digs v) rfl
  rw [digs8_val x hx.1 hx.2, digs8_val y hy.1 hy.2] at h1
  rw [digs8_val z hz.1 hz.2, digs8_val v hv.1 hv.2] at h2
  rw [h1.2, h2.2]

/-! Floats. -/
/-- is f ahead of g? -/
def belowF (f g : Nat) : Bool := (FloatKind.f64.format.order f g == some .lt) || ((FloatKind.f64.format.order f f == some .eq) && !(FloatKind.f64.format.order g g == some .eq))
def alikeF (f g : Nat) : Bool := (FloatKind.f64.format.order f g == some .eq) || (!(FloatKind.f64.format.order f f == some .eq) && !(FloatKind.f64.format.order g g == some .eq))
open Go.Proofs.Ythbcnieekpjhcaa.Fl in
theorem order_dec (f g : Nat) (hf : f < 18446744073709551616) (hg : g < 18446744073709551616) (nf : isNum f) (ng : isNum g) :
    (FloatKind.f64.format.order f g == some .lt) = decide (key f < key g) ∧ (FloatKind.f64.format.order f g == some .eq) = decide (key f = key g) := by
  have h : FloatKind.f64.format.order f g = some (compare (key f) (key g)) := order_key f g hf hg nf ng
  rw [h]
  rcases Int.lt_trichotomy (key f) (key g) with c | c | c
  · rw [cmp_iff _ _ .lt (.inl ⟨rfl, c⟩), decide_eq_true c, decide_eq_false (by omega)]; exact ⟨rfl, rfl⟩
  · rw [cmp_iff _ _ .eq (.inr (.inl ⟨rfl, c⟩)), decide_eq_true c, decide_eq_false (by omega)]; exact ⟨rfl, rfl⟩
  · rw [cmp_iff _ _ .gt (.inr (.inr ⟨rfl, c⟩)), decide_eq_false (by omega), decide_eq_false (by omega)]; exact ⟨rfl, rfl⟩
open Go.Proofs.Ythbcnieekpjhcaa.Fl in
theorem self_dec (f : Nat) (hf : f < 18446744073709551616) : (FloatKind.f64.format.order f f == some .eq) = decide (f % 9223372036854775808 ≤ 9218868437227405312) := by
  by_cases nf : isNum f
  · rw [(order_dec f f hf hf nf nf).2, decide_eq_true rfl]
    unfold isNum at nf
    exact (decide_eq_true nf).symm
  · have h : FloatKind.f64.format.order f f = none := order_nan_left f f hf nf
    rw [h]
    unfold isNum at nf
    exact (decide_eq_false nf).symm
open Go.Proofs.Ythbcnieekpjhcaa.Fl in
theorem float_less (f g : Nat) (hf : f < 18446744073709551616) (hg : g < 18446744073709551616) : decide (fkey f < fkey g) = belowF f g ∧ (fkey f = fkey g ↔ alikeF f g = true) := by
  unfold belowF alikeF
  rw [self_dec f hf, self_dec g hg]
  by_cases nf : isNum f
  · by_cases ng : isNum g
    · rw [(order_dec f g hf hg nf ng).1, (order_dec f g hf hg nf ng).2]
      unfold isNum at nf ng
      rw [decide_eq_true nf, decide_eq_true ng]
      have k1 : (fkey f < fkey g ↔ key f < key g) ∧ (fkey f = fkey g ↔ key f = key g) := by
        unfold fkey key
        rw [if_pos nf, if_pos ng]
        constructor <;> (repeat' split) <;> omega
      simp only [k1.1, k1.2]
      simp
    · have h : FloatKind.f64.format.order f g = none := order_nan_right f g hg ng
      rw [h]
      unfold isNum at nf ng
      rw [decide_eq_true nf, decide_eq_false ng]
      have k1 : fkey f < fkey g := by
        unfold fkey
        rw [if_pos nf, if_neg ng]
        (repeat' split) <;> omega
      simp [k1]; omega
  · have h : FloatKind.f64.format.order f g = none := order_nan_left f g hf nf
    rw [h]
    unfold isNum at nf
    rw [decide_eq_false nf]
    have e1 : fkey f = 18446744073709551615 := by unfold fkey; rw [if_neg nf]
    rw [e1]
    by_cases ng : isNum g
    · unfold isNum at ng
      rw [decide_eq_true ng]
      have k1 : fkey g < 18446744073709551615 := by
        unfold fkey
        rw [if_pos ng]
        (repeat' split) <;> omega
      simp; omega
    · unfold isNum at ng
      rw [decide_eq_false ng]
      have e2 : fkey g = 18446744073709551615 := by unfold fkey; rw [if_neg ng]
      rw [e2]
      simp
end Go.Proofs.Ythbcnieekpjhcaa.Leaf
