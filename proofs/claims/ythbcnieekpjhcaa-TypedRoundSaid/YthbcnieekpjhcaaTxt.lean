/- The codec of texts: what Pack, Width and Unpack return, and the document's likewise. -/
import Derived.Test.YthbcnieekpjhcaaPTypedTextsx1
import Derived.Test.YthbcnieekpjhcaaPTypedTextsx2
import Derived.Test.YthbcnieekpjhcaaCodec
import Derived.Lib.BufferWrite
import Derived.Laws.CopyOwn
namespace Go.Proofs.Ythbcnieekpjhcaa.Leaf
open Go.RowKit Go.Proofs.YthbcnieekpjhcaaW.PrintWords Go.Proofs.YthbcnieekpjhcaaW.PrintLast Go.Proofs.YthbcnieekpjhcaaW.PrintMore
set_option linter.unusedVariables false
set_option linter.unusedSimpArgs false

/-- A text's bytes as numbers. -/
def b2l (s : ByteArray) : List Int := s.data.toList.map fun b => (b.toNat : Int)
theorem b2l_length (s : ByteArray) : (b2l s).length = s.size := by
  unfold b2l; rw [List.length_map, Array.length_toList]; rfl
theorem str_b2l (s : ByteArray) : strOfNums (b2l s) = s := by
  unfold strOfNums b2l
  rw [List.map_map]
  have e : s.data.toList.map ((fun n : Int => UInt8.ofNat n.toNat) ∘ fun b : UInt8 => (b.toNat : Int)) = s.data.toList := by
    conv => rhs; rw [← List.map_id s.data.toList]
    refine List.map_congr_left fun b _ => ?_
    simp
  rw [e]
theorem b2l_str_len (l : List Int) : (strOfNums l).size = l.length := strOfNums_size l

/-- May a text of this length stand in a codec of that greatest length? -/
def textIn (m : Int) (s : ByteArray) : Bool := decide (0 ≤ m) && (decide (m ≤ 127) && decide ((s.size : Int) ≤ m))
def textOf (m : Int) (s : ByteArray) : ByteArray := strOfNums (b2l s ++ (List.replicate (m.toNat - s.size) 0 ++ [(s.size : Int)]))
def packT (m : Int) (s : ByteArray) : ByteArray := if textIn m s = true then textOf m s else ⟨#[]⟩
def widthT (m : Int) : Int := if 0 ≤ m ∧ m ≤ 127 then m + 1 else 0
def unpackT (m : Int) (s : ByteArray) : ByteArray := if 0 ≤ m ∧ m ≤ 127 ∧ (s.size : Int) = m + 1 ∧ bt s m ≤ m then s.extract 0 (bt s m).toNat else ⟨#[]⟩

theorem ref_text_l0 (m : Int) (s : ByteArray) (hm0 : 0 ≤ m) (hm1 : m ≤ 127) (hs : (s.size : Int) ≤ m) : ∀ (d j k : Nat), s.size + j + d = m.toNat → d < k →
    PTypedTexts.larderref21_PackText.l0 k m s (strOfNums (b2l s ++ List.replicate j 0)) = some (textOf m s, true) := by
  intro d
  induction d with
  | zero =>
    intro j k hj hk
    obtain ⟨k, rfl⟩ := Nat.exists_eq_add_one_of_ne_zero (by omega : k ≠ 0)
    have hl : (strOfNums (b2l s ++ List.replicate j 0)).size = s.size + j := by rw [strOfNums_size]; simp [b2l_length]
    have hb : ((s.size : Int)) % 256 = s.size := by omega
    simp only [PTypedTexts.larderref21_PackText.l0, hl, strOfNums_size, Option.bind_some]
    rw [if_neg (by omega), if_pos (by simp only [List.length_cons, List.length_nil]; omega), strOfNums_append, hb, List.append_assoc]
    have : m.toNat - s.size = j := by omega
    rw [textOf, this]
  | succ d ih =>
    intro j k hj hk
    obtain ⟨k, rfl⟩ := Nat.exists_eq_add_one_of_ne_zero (by omega : k ≠ 0)
    have hl : (strOfNums (b2l s ++ List.replicate j 0)).size = s.size + j := by rw [strOfNums_size]; simp [b2l_length]
    have h1 : (⟨#[0]⟩ : ByteArray) = strOfNums [0] := by decide +kernel
    simp only [PTypedTexts.larderref21_PackText.l0, hl]
    rw [if_pos (by omega), if_pos (by omega), h1, strOfNums_append, List.append_assoc]
    have : List.replicate j (0 : Int) ++ [0] = List.replicate (j + 1) 0 := by rw [List.replicate_succ']
    rw [this]
    exact ih (j + 1) k (by omega) (by omega)

theorem ref_text_f (m : Int) (s : ByteArray) : PTypedTexts.larderref21_PackText.f 200 m s = some (packT m s, textIn m s) := by
  unfold PTypedTexts.larderref21_PackText.f packT textIn
  by_cases h0 : m < 0
  · rw [if_pos h0]; simp [PTypedTexts.larderref21_PackText.j0]; omega
  · rw [if_neg h0]
    by_cases h1 : m > 127
    · rw [if_pos h1]; simp [PTypedTexts.larderref21_PackText.j0]; omega
    · rw [if_neg h1]
      by_cases h2 : (s.size : Int) > m
      · rw [decide_eq_true h2]; simp [PTypedTexts.larderref21_PackText.j0]; omega
      · rw [decide_eq_false h2]
        have e : (decide (0 ≤ m) && (decide (m ≤ 127) && decide ((s.size : Int) ≤ m))) = true := by simp; omega
        rw [if_pos e, e, PTypedTexts.larderref21_PackText.j0, if_neg (by decide)]
        have h := ref_text_l0 m s (by omega) (by omega) (by omega) (m.toNat - s.size) 0 199 (by omega) (by omega)
        rw [List.replicate_zero, List.append_nil, str_b2l] at h
        exact h

theorem wrap_small (m : Int) (h0 : 0 ≤ m) (h1 : m ≤ 127) : wrap64 (m + 1) = m + 1 := by
  unfold wrap64; omega
theorem text_fine_f (m : Int) : PTypedTexts.typed_Text_fine.f m = some (decide (0 ≤ m ∧ m ≤ 127)) := by
  unfold PTypedTexts.typed_Text_fine.f
  by_cases h : m ≥ 0
  · rw [if_pos h]; congr 1; simp; omega
  · rw [if_neg h]; congr 1; simp; omega
theorem text_width_f (m : Int) : PTypedTexts.typed_Text_Width.f m = some (widthT m) := by
  unfold PTypedTexts.typed_Text_Width.f
  rw [text_fine_f, Option.bind_some]
  unfold widthT
  by_cases h : 0 ≤ m ∧ m ≤ 127
  · rw [if_pos h, if_pos (decide_eq_true h), wrap_small m h.1 h.2]
  · rw [if_neg h, if_neg (by simp only [decide_eq_true_eq]; exact h)]
theorem ref_width_f (m : Int) : PTypedTexts.larderref21_TextWidth.f m = some (widthT m) := by
  unfold PTypedTexts.larderref21_TextWidth.f widthT
  by_cases h0 : m < 0
  · rw [if_pos h0, if_neg (by omega)]
  · rw [if_neg h0]
    by_cases h1 : m > 127
    · rw [if_pos h1, if_neg (by omega)]
    · rw [if_neg h1, if_pos (by omega), wrap_small m (by omega) (by omega)]
theorem wrap_bt (s : ByteArray) (i : Int) : wrap64 (bt s i) = bt s i := by
  have := bt_range s i
  unfold wrap64; omega
theorem text_unpack_f (m : Int) (s : ByteArray) : PTypedTexts.typed_Text_Unpack.f m s = some (unpackT m s) := by
  unfold PTypedTexts.typed_Text_Unpack.f unpackT
  rw [text_fine_f, Option.bind_some]
  have hb := bt_range s m
  by_cases h : 0 ≤ m ∧ m ≤ 127
  · rw [if_pos (decide_eq_true h), wrap_small m h.1 h.2, wrap_bt]
    by_cases h2 : (s.size : Int) = m + 1
    · rw [if_pos h2, if_pos h.1, if_pos (by omega)]
      by_cases h3 : bt s m > m
      · rw [if_pos h3, if_neg (by omega)]
      · rw [if_neg h3, if_pos hb.1, if_pos (by omega), if_pos (by omega)]
    · rw [if_neg h2, if_neg (by omega)]
  · rw [if_neg (by simp only [decide_eq_true_eq]; exact h), if_neg (by omega)]
theorem ref_untext_f (m : Int) (s : ByteArray) : PTypedTexts.larderref21_UnpackText.f 2 m s = some (unpackT m s) := by
  unfold PTypedTexts.larderref21_UnpackText.f unpackT
  have hb := bt_range s m
  simp only [PTypedTexts.larderref21_UnpackText.j0, wrap_bt]
  by_cases h0 : m < 0
  · rw [if_pos h0, if_pos trivial, if_neg (by omega)]
  · rw [if_neg h0]
    by_cases h1 : m > 127
    · rw [if_pos h1, if_pos trivial, if_neg (by omega)]
    · rw [if_neg h1, wrap_small m (by omega) (by omega)]
      by_cases h2 : (s.size : Int) = m + 1
      · rw [if_neg (by simp [h2]), if_pos (by omega), if_pos (by omega)]
        by_cases h3 : bt s m > m
        · rw [if_pos h3, if_neg (by omega)]
        · rw [if_neg h3, if_pos hb.1, if_pos (by omega), if_pos (by omega)]
      · rw [if_pos (by simpa using h2), if_neg (by omega)]

section
variable {P : Program} {ops : Array Oper} {rest : List Oper} {o : Oper} {a : Act} {Q : Exit → Act → World → Prop}
/-- copy(v, s), s a string that fits, v a row of bytes of one's own. -/
theorem copy_text {w0 W : World} (base : Nat) {e : TypeId} (hgd : o.guard = none) (s x : Operand) (t t' : TypeId)
    (ho : o.op = .call { callee := .builtin .copy, args := #[s, x], argTypes := #[t, t'] }) (ht : P.underlying t = some (.slice e)) (hinfo : (P.info? e).map (·.size) = some 1)
    (v : Value) (xs : List Int) (b : ByteArray) (ok : Nat → Prop) (hs : a.eval s = v) (hx : a.eval x = .string b) (hle : b.size ≤ xs.length)
    (HO : Kd.R (Kd.int .u8) e W base ok v xs) (HB : Below base w0 W) (hbase : base ≤ W.heap.size)
    (h : ∀ w1, Kd.R (Kd.int .u8) e w1 base ok v (b2l b ++ xs.drop b.size) → Below base w0 w1 → wpList P ops Q rest (a.put o.dst (goInt b.size)) w1) :
    wpList P ops Q (o :: rest) a W := by
  have hown := Kd.own_of_R HO
  have fin : ∀ w1, (Builtin.copy_ #[t, t'] o.type #[v, .string b]).run P W = .ok (goInt b.size) w1 → Kd.R (Kd.int .u8) e w1 base ok v (b2l b ++ xs.drop b.size) → Below base w0 w1 → wpList P ops Q (o :: rest) a W := by
    intro w1 hr hrow hg
    refine wpList_plain hgd fun K hK => ?_
    unfold Oper.wp execOp
    simp only [ho, resolve, invoke, builtin, Sem.run_bind, Sem.run_pure, Result.andThen_ok, List.map_toArray, List.map_cons, List.map_nil, hs, hx, hr]
    exact hK _ _ (h w1 hrow hg)
  have hlen : (b2l b ++ xs.drop b.size).length = xs.length := by rw [List.length_append, b2l_length, List.length_drop]; omega
  rcases hown.2 with ⟨hv, hx0⟩ | ⟨g, cap, cur, hv, hb, hh, hnc, hcm, hcs, htake⟩
  · have h0 : b.size = 0 := by omega
    have e1 : b2l b ++ xs.drop b.size = xs := by
      have : b2l b = [] := List.eq_nil_of_length_eq_zero (by rw [b2l_length]; exact h0)
      rw [this, h0]; simp
    refine fin W ?_ (by rw [e1]; exact HO) HB
    rw [hv, h0]
    exact Lib.run_copy_empty_string W t t' o.type e none 0 0 b ht (by cases hq : P.info? e with | none => rw [hq] at hinfo; cases hinfo | some i => rfl) h0
  · have hr := Lib.run_copy_row_string (P := P) W t t' o.type e g 0 xs.length cap b cur e ht hinfo hh hle (by omega)
    rw [← hv] at hr
    refine fin _ hr (Kd.R_of_own ?_ HO.1) (Go.below_setRow HB hb _)
    rw [hlen]
    refine ⟨by rw [encs_length, hlen, Nat.mul_one], .inr ⟨g, cap, _, hv, hb, setRow_heap W g _ _ e _ hh, hnc, hcm, ?_, ?_⟩⟩
    · simp [Lib.byteCells_length]; omega
    · have hbc : (Lib.byteCells b.data.toList).length = b.size := by rw [Lib.byteCells_length, Array.length_toList]; rfl
      have e1 : encs (fun n : Int => Value.int .u8 n) (b2l b) = Lib.byteCells b.data.toList := by simp [encs, b2l, Lib.byteCells]
      have htk : cur.toList.take xs.length = encs (fun n : Int => Value.int .u8 n) xs := by rw [← htake, Nat.mul_one]
      rw [Nat.mul_one, List.take_zero, List.nil_append, Nat.zero_add, encs_append]
      rw [List.take_append, List.take_of_length_le (by rw [hbc]; omega), hbc, List.take_drop]
      have e2 : b.size + (xs.length - b.size) = xs.length := by omega
      rw [e2, htk]
      show Lib.byteCells b.data.toList ++ _ = encs _ (b2l b) ++ encs _ (xs.drop b.size)
      rw [show encs (fun n : Int => Value.int .u8 n) (xs.drop b.size) = (encs (fun n : Int => Value.int .u8 n) xs).drop b.size from by simp [encs, List.map_drop]]
      congr 1
      exact e1.symm
end
end Go.Proofs.Ythbcnieekpjhcaa.Leaf
