/- The codec of bools, walked. -/
import Derived.Test.YthbcnieekpjhcaaTxtP
namespace Go.Proofs.Ythbcnieekpjhcaa.Leaf
open Go.RowKit Go.Proofs.YthbcnieekpjhcaaW.PrintWords Go.Proofs.YthbcnieekpjhcaaW.PrintLast Go.Proofs.YthbcnieekpjhcaaW.PrintMore
set_option linter.unusedVariables false
set_option linter.unusedSimpArgs false

def packB (b : Bool) : ByteArray := if b = true then ⟨#[1]⟩ else ⟨#[0]⟩
def unpackB (s : ByteArray) : Bool := decide (s.size = 1) && decide (bt s 0 ≠ 0)

theorem bool_pack (b : Bool) (w : World) : Calls Try.prog 13 #[.agg #[], .bool b] w fun e w' => e = .returned (.tuple #[.string (packB b), .bool true]) ∧ Below w.heap.size w w' := by
  cases b
  · rw [show packB false = ⟨#[0]⟩ from rfl]
    go_enter Try.func13, Try.ntmps13
    go_wp2_with fail
    go_ret2
    exact ⟨rfl, below_box0⟩
  · rw [show packB true = ⟨#[1]⟩ from rfl]
    go_enter Try.func13, Try.ntmps13
    go_wp2_with fail
    go_ret2
    exact ⟨rfl, below_box0⟩
theorem bool_width (w : World) : Calls Try.prog 55 #[.agg #[]] w fun e w' => e = .returned (.int .i64 1) ∧ Below w.heap.size w w' := by
  go_enter Try.func55, Try.ntmps55
  go_wp2_with fail
  go_ret
  exact ⟨rfl, below_box0⟩
theorem bool_align (w : World) : Calls Try.prog 56 #[.agg #[]] w fun e w' => e = .returned (.int .i64 1) ∧ Below w.heap.size w w' := by
  go_enter Try.func56, Try.ntmps56
  go_wp2_with fail
  go_ret
  exact ⟨rfl, below_box0⟩
theorem bool_unpack (s : ByteArray) (w : World) : Calls Try.prog 20 #[.agg #[], .string s] w fun e w' => e = .returned (.bool (unpackB s)) ∧ Below w.heap.size w w' := by
  by_cases hs : s.size = 1
  · have he : (((s.size : Nat) : Int) == 1) = true := by rw [hs]; rfl
    have hlt : (0 < s.size) = True := eq_true (by omega)
    have hi : ∀ h : (0 : Int).toNat < s.size, ((s[(0 : Int).toNat]'h).toNat : Int) = bt s 0 := bt_at s 0
    have hi2 : ∀ h : 0 < s.size, ((s[0]'h).toNat : Int) = bt s 0 := bt_at s 0
    have hu : unpackB s = (bt s 0 != 0) := by
      unfold unpackB
      rw [decide_eq_true hs, Bool.true_and]
      by_cases h0 : bt s 0 = 0
      · rw [h0]; rfl
      · rw [decide_eq_true h0, bne_iff_ne.mpr h0]
    rw [hu]
    clear hu
    clear hs
    go_enter Try.func20, Try.ntmps20
    go_wp2_with fail
    go_ret
    exact ⟨rfl, below_box0⟩
  · have he : (((s.size : Nat) : Int) == 1) = false := by
      apply Bool.eq_false_iff.mpr; intro h; have := eq_of_beq h; omega
    have hu : unpackB s = false := by unfold unpackB; rw [decide_eq_false hs]; rfl
    rw [hu]
    clear hu hs
    go_enter Try.func20, Try.ntmps20
    go_wp2_with fail
    go_ret
    exact ⟨rfl, below_box0⟩

theorem rbool_pack (b : Bool) (w : World) : Calls Try.prog 54 #[.bool b] w fun e w' => e = .returned (.string (packB b)) ∧ Below w.heap.size w w' :=
  (PTypedTexts.larderref21_PackBool.calls b (packB b) w (by cases b <;> rfl)).mono fun _ _ h => ⟨h.1, drawn_below h.2⟩
theorem one_byte (s : ByteArray) (h : s.size = 1) : ∃ c, s = ⟨#[c]⟩ := by
  refine ⟨s[0]'(by omega), ?_⟩
  apply ByteArray.ext
  apply Array.ext
  · exact h
  · intro i h1 h2
    have : i = 0 := by simp at h2; omega
    subst this
    rfl
theorem rbool_unpack (s : ByteArray) (w : World) : Calls Try.prog 57 #[.string s] w fun e w' => e = .returned (.bool (unpackB s)) ∧ Below w.heap.size w w' := by
  refine (PTypedTexts.larderref21_UnpackBool.calls s (unpackB s) w ?_).mono fun _ _ h => ⟨h.1, drawn_below h.2⟩
  unfold PTypedTexts.larderref21_UnpackBool.f unpackB
  by_cases h : s.size = 1
  · rw [if_pos (by omega), decide_eq_true h, Bool.true_and]
    congr 1
    obtain ⟨c, rfl⟩ := one_byte s h
    have hb : bt ⟨#[c]⟩ 0 = (c.toNat : Int) := rfl
    have hl : (⟨#[c]⟩ : ByteArray).toList = [c] := ByteArray.toList_eq _
    rw [hb, hl]
    by_cases h0 : c = 0
    · rw [h0]; rfl
    · have h1 : (([c] : List UInt8) != [0]) = true := by simpa using h0
      rw [h1]
      symm
      apply decide_eq_true
      intro h2
      apply h0
      apply UInt8.toNat_inj.mp
      have : c.toNat = 0 := by omega
      rw [this]; rfl
  · rw [if_neg (by omega), decide_eq_false h]; rfl
end Go.Proofs.Ythbcnieekpjhcaa.Leaf
