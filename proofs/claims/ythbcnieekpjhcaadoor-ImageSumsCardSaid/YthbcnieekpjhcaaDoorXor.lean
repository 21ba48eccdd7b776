/- The reference's xor: digit by digit. -/
import Derived.Test.YthbcnieekpjhcaaDoorDig
set_option linter.unusedVariables false
set_option linter.unusedSimpArgs false
namespace Go.Proofs.YthbcnieekpjhcaaDoor.Wk
open Go Go.RowKit

/-- the first k digits of x are laid -/
def PreC (x : Int) (k : Nat) (a b c d : Int) : Prop :=
  match k with
  | 0 => True
  | 1 => a = Pu.d0 x
  | 2 => a = Pu.d0 x ∧ b = Pu.d1 x
  | 3 => a = Pu.d0 x ∧ b = Pu.d1 x ∧ c = Pu.d2 x
  | _ => a = Pu.d0 x ∧ b = Pu.d1 x ∧ c = Pu.d2 x ∧ d = Pu.d3 x

def XorR (x y z : Int) (w : World) (i : Value) (wr : World) : Prop :=
  ∃ (k : Nat) (a b c d : Int), k ≤ 4 ∧ i = .int .i64 k ∧ Arr4 wr w.heap.size (Pu.d0 x) (Pu.d1 x) (Pu.d2 x) (Pu.d3 x) ∧ Arr4 wr (w.heap.size + 1) (Pu.d0 y) (Pu.d1 y) (Pu.d2 y) (Pu.d3 y) ∧ Arr4 wr (w.heap.size + 2) 0 0 0 0 ∧
    Arr4 wr (w.heap.size + 3) a b c d ∧ Below w.heap.size w wr ∧ PreC z k a b c d

theorem Arr4.newAt (w : World) (n : Nat) (x0 x1 x2 x3 : Int) (h : n = w.heap.size) : Arr4 (w.alloc (.cells #[.int .i64 x0, .int .i64 x1, .int .i64 x2, .int .i64 x3] 30)) n x0 x1 x2 x3 := by
  subst h; exact Arr4.new w

set_option maxHeartbeats 1000000 in
set_option maxRecDepth 100000 in
theorem xor_call (x y : Int) (w : World) (hx : 0 ≤ x ∧ x < 18446744073709551616) (hy : 0 ≤ y ∧ y < 18446744073709551616) :
    Calls Tryd.prog 8 #[agg4 x, agg4 y] w fun e w' => e = .returned (agg4 (bits .xor .u64 x y)) ∧ Below w.heap.size w w' := by
  obtain ⟨e0, e1, e2, e3⟩ := Pu.xor_digits x y hx hy
  have E0 := Lib.hid e0
  have E1 := Lib.hid e1
  have E2 := Lib.hid e2
  have E3 := Lib.hid e3
  clear e0 e1 e2 e3
  generalize bits .xor .u64 x y = z at *
  unfold agg4
  go_enter Tryd.func8, Tryd.ntmps8
  go_wp2_with fail
  go_loopw [6] (fun i wr => XorR x y z w i wr) (fun i wr => 4 - (intOf i).toNat)
  case atStart =>
    refine ⟨0, 0, 0, 0, 0, by omega, rfl, ?_, ?_, ?_, ?_, ?_, trivial⟩
    · exact (((Arr4.new w).alloc _).alloc _).alloc _
    · exact ((Arr4.newAt _ _ _ _ _ _ (by simp)).alloc _).alloc _
    · exact (Arr4.newAt _ _ _ _ _ _ (by simp)).alloc _
    · exact Arr4.newAt _ _ _ _ _ _ (by simp)
    · exact (((((Below.refl w.heap.size w).alloc (Nat.le_refl _) _).alloc (by simp) _).alloc (by simp; omega) _).alloc (by simp; omega) _)
  case round =>
    obtain ⟨k, a, b, c, d, hk, rfl, HX0, HY0, HZ0, HA0, HB0, HC0⟩ := hrel
    have HX := Lib.hid HX0
    have HY := Lib.hid HY0
    have HA := Lib.hid HA0
    have HZ := Lib.hid HZ0
    have HB := Lib.hid HB0
    have HC := Lib.hid HC0
    clear HX0 HY0 HA0 HZ0 HB0 HC0
    obtain ⟨c0, c1, c2, c3, fr⟩ := HA.out
    by_cases hlt : k < 4
    · obtain ⟨p0, p1, p2, p3, _⟩ := HX.out
      obtain ⟨q0, q1, q2, q3, _⟩ := HY.out
      obtain rfl | rfl | rfl | rfl : k = 0 ∨ k = 1 ∨ k = 2 ∨ k = 3 := by omega
      · go_wp2_with fail
        go_region
        go_wp2_with fail
        exact ⟨⟨1, _, b, c, d, by omega, rfl, (HX.out.far _ _ (by omega)).drew, (HY.out.far _ _ (by omega)).drew, (HZ.out.far _ _ (by omega)).drew, HA.out.set0.drew, (HB.out.setCell (by show _ ≤ w.heap.size + 3; omega) _).drew, E0.out⟩, by simp [intOf]⟩
      · go_wp2_with fail
        go_region
        go_wp2_with fail
        exact ⟨⟨2, a, _, c, d, by omega, rfl, (HX.out.far _ _ (by omega)).drew, (HY.out.far _ _ (by omega)).drew, (HZ.out.far _ _ (by omega)).drew, HA.out.set1.drew, (HB.out.setCell (by show _ ≤ w.heap.size + 3; omega) _).drew, ⟨HC.out, E1.out⟩⟩, by simp [intOf]⟩
      · go_wp2_with fail
        go_region
        go_wp2_with fail
        exact ⟨⟨3, a, b, _, d, by omega, rfl, (HX.out.far _ _ (by omega)).drew, (HY.out.far _ _ (by omega)).drew, (HZ.out.far _ _ (by omega)).drew, HA.out.set2.drew, (HB.out.setCell (by show _ ≤ w.heap.size + 3; omega) _).drew, ⟨HC.out.1, HC.out.2, E2.out⟩⟩, by simp [intOf]⟩
      · go_wp2_with fail
        go_region
        go_wp2_with fail
        exact ⟨⟨4, a, b, c, _, by omega, rfl, (HX.out.far _ _ (by omega)).drew, (HY.out.far _ _ (by omega)).drew, (HZ.out.far _ _ (by omega)).drew, HA.out.set3.drew, (HB.out.setCell (by show _ ≤ w.heap.size + 3; omega) _).drew, ⟨HC.out.1, HC.out.2.1, HC.out.2.2, E3.out⟩⟩, by simp [intOf]⟩
    · obtain rfl : k = 4 := by omega
      obtain ⟨z0, z1, z2, z3, zf⟩ := HZ.out
      go_wp2_with fail
      have hr := (((HZ.out.set0 (y := a)).set1 (y := b)).set2 (y := c)).set3 (y := d)
      obtain ⟨r0, r1, r2, r3, _⟩ := hr
      refine bodyPost_ret (v := .agg #[.int .i64 a, .int .i64 b, .int .i64 c, .int .i64 d]) (by simp [results, Tryd.results8, go_sem, r0, r1, r2, r3]) rfl ⟨?_, below_sets HB.out (by omega)⟩
      obtain ⟨rfl, rfl, rfl, rfl⟩ : a = Pu.d0 z ∧ b = Pu.d1 z ∧ c = Pu.d2 z ∧ d = Pu.d3 z := HC.out
      rfl
end Go.Proofs.YthbcnieekpjhcaaDoor.Wk
