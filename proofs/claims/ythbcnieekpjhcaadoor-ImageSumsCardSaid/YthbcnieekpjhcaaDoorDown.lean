/- The reference's down: shifted by k. -/
import Derived.Test.YthbcnieekpjhcaaDoorWho
set_option linter.unusedVariables false
set_option linter.unusedSimpArgs false
namespace Go.Proofs.YthbcnieekpjhcaaDoor.Wk
open Go Go.RowKit

def PowR (x : Int) (m : Nat) (w : World) (p i : Value) (wr : World) : Prop :=
  ∃ (k : Nat), k ≤ m ∧ i = .int .i64 k ∧ p = .int .i64 ((2 : Int) ^ k) ∧ Arr4 wr w.heap.size (Pu.d0 x) (Pu.d1 x) (Pu.d2 x) (Pu.d3 x) ∧ Arr4 wr (w.heap.size + 1) 0 0 0 0 ∧ Arr4 wr (w.heap.size + 2) 0 0 0 0 ∧ Below w.heap.size w wr

/-- the first k digits of y are laid, the others are 0 -/
def PreZ (y : Int) (k : Nat) (a b c d : Int) : Prop :=
  match k with
  | 0 => a = 0 ∧ b = 0 ∧ c = 0 ∧ d = 0
  | 1 => a = Pu.d0 y ∧ b = 0 ∧ c = 0 ∧ d = 0
  | 2 => a = Pu.d0 y ∧ b = Pu.d1 y ∧ c = 0 ∧ d = 0
  | 3 => a = Pu.d0 y ∧ b = Pu.d1 y ∧ c = Pu.d2 y ∧ d = 0
  | _ => False

def DownR (x y : Int) (n : Nat) (w : World) (i : Value) (wr : World) : Prop :=
  ∃ (k : Nat) (a b c d : Int), k ≤ n ∧ i = .int .i64 k ∧ Arr4 wr w.heap.size (Pu.d0 x) (Pu.d1 x) (Pu.d2 x) (Pu.d3 x) ∧ Arr4 wr (w.heap.size + 1) 0 0 0 0 ∧
    Arr4 wr (w.heap.size + 2) a b c d ∧ Below w.heap.size w wr ∧ PreZ y k a b c d

theorem pow_le16 (k : Nat) (h : k ≤ 15) : (1 : Int) ≤ 2 ^ k ∧ (2 : Int) ^ k ≤ 32768 := by
  have : k = 0 ∨ k = 1 ∨ k = 2 ∨ k = 3 ∨ k = 4 ∨ k = 5 ∨ k = 6 ∨ k = 7 ∨ k = 8 ∨ k = 9 ∨ k = 10 ∨ k = 11 ∨ k = 12 ∨ k = 13 ∨ k = 14 ∨ k = 15 := by omega
  rcases this with rfl | rfl | rfl | rfl | rfl | rfl | rfl | rfl | rfl | rfl | rfl | rfl | rfl | rfl | rfl | rfl <;> decide

theorem down31_digits (x : Int) (hx : 0 ≤ x ∧ x < 18446744073709551616) : Pu.d1 x / 32768 + Pu.d2 x % 32768 * 2 = Pu.d0 (x / 2147483648) ∧ Pu.d2 x / 32768 + Pu.d3 x % 32768 * 2 = Pu.d1 (x / 2147483648) ∧ Pu.d3 x / 32768 = Pu.d2 (x / 2147483648) ∧ 0 = Pu.d3 (x / 2147483648) := by
  unfold Pu.d0 Pu.d1 Pu.d2 Pu.d3
  refine ⟨?_, ?_, ?_, ?_⟩ <;> omega

set_option maxHeartbeats 2000000 in
set_option maxRecDepth 100000 in
theorem down31 (x : Int) (w : World) (hx : 0 ≤ x ∧ x < 18446744073709551616) :
    Calls Tryd.prog 11 #[agg4 x, .int .i64 31] w fun e w' => e = .returned (agg4 (x / 2147483648)) ∧ Below w.heap.size w w' := by
  have hd := Pu.d_range x
  obtain ⟨e0, e1, e2, e3⟩ := down31_digits x hx
  have E0 := Lib.hid e0
  have E1 := Lib.hid e1
  have E2 := Lib.hid e2
  have E3 := Lib.hid e3
  clear e0 e1 e2 e3 hx
  generalize x / 2147483648 = z at *
  unfold agg4
  go_enter Tryd.func11, Tryd.ntmps11
  go_wp2_with fail
  go_loopw [6, 7] (fun p i wr => PowR x 15 w p i wr) (fun p i wr => (15 - intOf i).toNat)
  case atStart =>
    refine ⟨0, by omega, rfl, rfl, ?_, ?_, ?_, ?_⟩
    · exact ((Arr4.new w).alloc _).alloc _
    · exact (Arr4.newAt _ _ _ _ _ _ (by simp)).alloc _
    · exact Arr4.newAt _ _ _ _ _ _ (by simp)
    · exact ((((Below.refl w.heap.size w).alloc (Nat.le_refl _) _).alloc (by simp) _).alloc (by simp; omega) _)
  case round =>
    obtain ⟨k, hk, rfl, rfl, HX0, HZ0, HA0, HB0⟩ := hrel
    have HX := Lib.hid HX0
    have HA := Lib.hid HA0
    have HZ := Lib.hid HZ0
    have HB := Lib.hid HB0
    clear HX0 HA0 HZ0 HB0
    by_cases hlt : k < 15
    · obtain ⟨b0, b1⟩ := pow_le16 k (by omega)
      have HP := Lib.hid (show (2 : Int) ^ (k + 1) = 2 ^ k * 2 by rw [Int.pow_succ])
      generalize (2 : Int) ^ k = P at *
      go_wp2_with fail
      exact ⟨⟨k + 1, by omega, by go_num, by rw [HP.out], HX.out, HZ.out, HA.out, HB.out⟩, by simp [intOf]; omega⟩
    · obtain rfl : k = 15 := by omega
      go_wp2_with fail
      go_loopw [8] (fun i wr => DownR x z 3 w i wr) (fun i wr => 4 - (intOf i).toNat)
      case atStart => exact ⟨0, 0, 0, 0, 0, by omega, rfl, HX.out, HZ.out, HA.out, HB.out, ⟨rfl, rfl, rfl, rfl⟩⟩
      case round =>
        clear HX HA HZ HB
        obtain ⟨k, a, b, c, d, hk, rfl, HX0, HZ0, HA0, HB0, HC0⟩ := hrel
        have HX := Lib.hid HX0
        have HA := Lib.hid HA0
        have HZ := Lib.hid HZ0
        have HB := Lib.hid HB0
        have HC := Lib.hid HC0
        clear HX0 HA0 HZ0 HB0 HC0
        obtain ⟨p0, p1, p2, p3, pf⟩ := HX.out
        obtain ⟨c0, c1, c2, c3, cf⟩ := HA.out
        obtain rfl | rfl | rfl | rfl : k = 0 ∨ k = 1 ∨ k = 2 ∨ k = 3 := by omega
        · go_wp2_with fail
          go_region
          go_wp2_with fail
          exact ⟨⟨1, _, b, c, d, by omega, rfl, ((HX.out.far _ _ (by omega)).far _ _ (by omega)).drew, ((HZ.out.far _ _ (by omega)).far _ _ (by omega)).drew, HA.out.set0.set0.drew, ((HB.out.setCell (by show _ ≤ w.heap.size + 2; omega) _).setCell (by show _ ≤ w.heap.size + 2; omega) _).drew, ⟨E0.out, HC.out.2.1, HC.out.2.2.1, HC.out.2.2.2⟩⟩, by simp [intOf]⟩
        · go_wp2_with fail
          go_region
          go_wp2_with fail
          exact ⟨⟨2, a, _, c, d, by omega, rfl, ((HX.out.far _ _ (by omega)).far _ _ (by omega)).drew, ((HZ.out.far _ _ (by omega)).far _ _ (by omega)).drew, HA.out.set1.set1.drew, ((HB.out.setCell (by show _ ≤ w.heap.size + 2; omega) _).setCell (by show _ ≤ w.heap.size + 2; omega) _).drew, ⟨HC.out.1, E1.out, HC.out.2.2.1, HC.out.2.2.2⟩⟩, by simp [intOf]⟩
        · go_wp2_with fail
          exact ⟨⟨3, a, b, _, d, by omega, rfl, HX.out.far _ _ (by omega), HZ.out.far _ _ (by omega), HA.out.set2, HB.out.setCell (by show _ ≤ w.heap.size + 2; omega) _, ⟨HC.out.1, HC.out.2.1, E2.out, HC.out.2.2.2⟩⟩, by simp [intOf]⟩
        · obtain ⟨z0, z1, z2, z3, zf⟩ := HZ.out
          go_wp2_with fail
          have hr := (((HZ.out.set0 (y := a)).set1 (y := b)).set2 (y := c)).set3 (y := d)
          obtain ⟨r0, r1, r2, r3, _⟩ := hr
          refine bodyPost_ret (v := .agg #[.int .i64 a, .int .i64 b, .int .i64 c, .int .i64 d]) (by simp [results, Tryd.results11, go_sem, r0, r1, r2, r3]) rfl ⟨?_, below_sets HB.out (by omega)⟩
          obtain ⟨g0, g1, g2, g3⟩ := HC.out
          rw [g0, g1, g2, g3, ← E3.out]

theorem down29_digits (x : Int) (hx : 0 ≤ x ∧ x < 18446744073709551616) : Pu.d1 x / 8192 + Pu.d2 x % 8192 * 8 = Pu.d0 (x / 536870912) ∧ Pu.d2 x / 8192 + Pu.d3 x % 8192 * 8 = Pu.d1 (x / 536870912) ∧ Pu.d3 x / 8192 = Pu.d2 (x / 536870912) ∧ 0 = Pu.d3 (x / 536870912) := by
  unfold Pu.d0 Pu.d1 Pu.d2 Pu.d3
  refine ⟨?_, ?_, ?_, ?_⟩ <;> omega

set_option maxHeartbeats 2000000 in
set_option maxRecDepth 100000 in
theorem down29 (x : Int) (w : World) (hx : 0 ≤ x ∧ x < 18446744073709551616) :
    Calls Tryd.prog 11 #[agg4 x, .int .i64 29] w fun e w' => e = .returned (agg4 (x / 536870912)) ∧ Below w.heap.size w w' := by
  have hd := Pu.d_range x
  obtain ⟨e0, e1, e2, e3⟩ := down29_digits x hx
  have E0 := Lib.hid e0
  have E1 := Lib.hid e1
  have E2 := Lib.hid e2
  have E3 := Lib.hid e3
  clear e0 e1 e2 e3 hx
  generalize x / 536870912 = z at *
  unfold agg4
  go_enter Tryd.func11, Tryd.ntmps11
  go_wp2_with fail
  go_loopw [6, 7] (fun p i wr => PowR x 13 w p i wr) (fun p i wr => (13 - intOf i).toNat)
  case atStart =>
    refine ⟨0, by omega, rfl, rfl, ?_, ?_, ?_, ?_⟩
    · exact ((Arr4.new w).alloc _).alloc _
    · exact (Arr4.newAt _ _ _ _ _ _ (by simp)).alloc _
    · exact Arr4.newAt _ _ _ _ _ _ (by simp)
    · exact ((((Below.refl w.heap.size w).alloc (Nat.le_refl _) _).alloc (by simp) _).alloc (by simp; omega) _)
  case round =>
    obtain ⟨k, hk, rfl, rfl, HX0, HZ0, HA0, HB0⟩ := hrel
    have HX := Lib.hid HX0
    have HA := Lib.hid HA0
    have HZ := Lib.hid HZ0
    have HB := Lib.hid HB0
    clear HX0 HA0 HZ0 HB0
    by_cases hlt : k < 13
    · obtain ⟨b0, b1⟩ := pow_le16 k (by omega)
      have HP := Lib.hid (show (2 : Int) ^ (k + 1) = 2 ^ k * 2 by rw [Int.pow_succ])
      generalize (2 : Int) ^ k = P at *
      go_wp2_with fail
      exact ⟨⟨k + 1, by omega, by go_num, by rw [HP.out], HX.out, HZ.out, HA.out, HB.out⟩, by simp [intOf]; omega⟩
    · obtain rfl : k = 13 := by omega
      go_wp2_with fail
      go_loopw [8] (fun i wr => DownR x z 3 w i wr) (fun i wr => 4 - (intOf i).toNat)
      case atStart => exact ⟨0, 0, 0, 0, 0, by omega, rfl, HX.out, HZ.out, HA.out, HB.out, ⟨rfl, rfl, rfl, rfl⟩⟩
      case round =>
        clear HX HA HZ HB
        obtain ⟨k, a, b, c, d, hk, rfl, HX0, HZ0, HA0, HB0, HC0⟩ := hrel
        have HX := Lib.hid HX0
        have HA := Lib.hid HA0
        have HZ := Lib.hid HZ0
        have HB := Lib.hid HB0
        have HC := Lib.hid HC0
        clear HX0 HA0 HZ0 HB0 HC0
        obtain ⟨p0, p1, p2, p3, pf⟩ := HX.out
        obtain ⟨c0, c1, c2, c3, cf⟩ := HA.out
        obtain rfl | rfl | rfl | rfl : k = 0 ∨ k = 1 ∨ k = 2 ∨ k = 3 := by omega
        · go_wp2_with fail
          go_region
          go_wp2_with fail
          exact ⟨⟨1, _, b, c, d, by omega, rfl, ((HX.out.far _ _ (by omega)).far _ _ (by omega)).drew, ((HZ.out.far _ _ (by omega)).far _ _ (by omega)).drew, HA.out.set0.set0.drew, ((HB.out.setCell (by show _ ≤ w.heap.size + 2; omega) _).setCell (by show _ ≤ w.heap.size + 2; omega) _).drew, ⟨E0.out, HC.out.2.1, HC.out.2.2.1, HC.out.2.2.2⟩⟩, by simp [intOf]⟩
        · go_wp2_with fail
          go_region
          go_wp2_with fail
          exact ⟨⟨2, a, _, c, d, by omega, rfl, ((HX.out.far _ _ (by omega)).far _ _ (by omega)).drew, ((HZ.out.far _ _ (by omega)).far _ _ (by omega)).drew, HA.out.set1.set1.drew, ((HB.out.setCell (by show _ ≤ w.heap.size + 2; omega) _).setCell (by show _ ≤ w.heap.size + 2; omega) _).drew, ⟨HC.out.1, E1.out, HC.out.2.2.1, HC.out.2.2.2⟩⟩, by simp [intOf]⟩
        · go_wp2_with fail
          exact ⟨⟨3, a, b, _, d, by omega, rfl, HX.out.far _ _ (by omega), HZ.out.far _ _ (by omega), HA.out.set2, HB.out.setCell (by show _ ≤ w.heap.size + 2; omega) _, ⟨HC.out.1, HC.out.2.1, E2.out, HC.out.2.2.2⟩⟩, by simp [intOf]⟩
        · obtain ⟨z0, z1, z2, z3, zf⟩ := HZ.out
          go_wp2_with fail
          have hr := (((HZ.out.set0 (y := a)).set1 (y := b)).set2 (y := c)).set3 (y := d)
          obtain ⟨r0, r1, r2, r3, _⟩ := hr
          refine bodyPost_ret (v := .agg #[.int .i64 a, .int .i64 b, .int .i64 c, .int .i64 d]) (by simp [results, Tryd.results11, go_sem, r0, r1, r2, r3]) rfl ⟨?_, below_sets HB.out (by omega)⟩
          obtain ⟨g0, g1, g2, g3⟩ := HC.out
          rw [g0, g1, g2, g3, ← E3.out]

theorem down32_digits (x : Int) (hx : 0 ≤ x ∧ x < 18446744073709551616) : Pu.d2 x = Pu.d0 (x / 4294967296) ∧ Pu.d3 x = Pu.d1 (x / 4294967296) ∧ 0 = Pu.d2 (x / 4294967296) ∧ 0 = Pu.d3 (x / 4294967296) := by
  unfold Pu.d0 Pu.d1 Pu.d2 Pu.d3
  refine ⟨?_, ?_, ?_, ?_⟩ <;> omega

set_option maxHeartbeats 2000000 in
set_option maxRecDepth 100000 in
theorem down32 (x : Int) (w : World) (hx : 0 ≤ x ∧ x < 18446744073709551616) :
    Calls Tryd.prog 11 #[agg4 x, .int .i64 32] w fun e w' => e = .returned (agg4 (x / 4294967296)) ∧ Below w.heap.size w w' := by
  have hd := Pu.d_range x
  obtain ⟨e0, e1, e2, e3⟩ := down32_digits x hx
  have E0 := Lib.hid e0
  have E1 := Lib.hid e1
  have E2 := Lib.hid e2
  have E3 := Lib.hid e3
  clear e0 e1 e2 e3 hx
  generalize x / 4294967296 = z at *
  unfold agg4
  go_enter Tryd.func11, Tryd.ntmps11
  go_wp2_with fail
  go_loopw [6, 7] (fun p i wr => PowR x 0 w p i wr) (fun p i wr => (0 - intOf i).toNat)
  case atStart =>
    refine ⟨0, by omega, rfl, rfl, ?_, ?_, ?_, ?_⟩
    · exact ((Arr4.new w).alloc _).alloc _
    · exact (Arr4.newAt _ _ _ _ _ _ (by simp)).alloc _
    · exact Arr4.newAt _ _ _ _ _ _ (by simp)
    · exact ((((Below.refl w.heap.size w).alloc (Nat.le_refl _) _).alloc (by simp) _).alloc (by simp; omega) _)
  case round =>
    obtain ⟨k, hk, rfl, rfl, HX0, HZ0, HA0, HB0⟩ := hrel
    have HX := Lib.hid HX0
    have HA := Lib.hid HA0
    have HZ := Lib.hid HZ0
    have HB := Lib.hid HB0
    clear HX0 HA0 HZ0 HB0
    by_cases hlt : k < 0
    · exact absurd hlt (by omega)
    · obtain rfl : k = 0 := by omega
      go_wp2_with fail
      go_loopw [8] (fun i wr => DownR x z 2 w i wr) (fun i wr => 4 - (intOf i).toNat)
      case atStart => exact ⟨0, 0, 0, 0, 0, by omega, rfl, HX.out, HZ.out, HA.out, HB.out, ⟨rfl, rfl, rfl, rfl⟩⟩
      case round =>
        clear HX HA HZ HB
        obtain ⟨k, a, b, c, d, hk, rfl, HX0, HZ0, HA0, HB0, HC0⟩ := hrel
        have HX := Lib.hid HX0
        have HA := Lib.hid HA0
        have HZ := Lib.hid HZ0
        have HB := Lib.hid HB0
        have HC := Lib.hid HC0
        clear HX0 HA0 HZ0 HB0 HC0
        obtain ⟨p0, p1, p2, p3, pf⟩ := HX.out
        obtain ⟨c0, c1, c2, c3, cf⟩ := HA.out
        obtain rfl | rfl | rfl : k = 0 ∨ k = 1 ∨ k = 2 := by omega
        · go_wp2_with fail
          go_region
          go_wp2_with fail
          exact ⟨⟨1, _, b, c, d, by omega, rfl, ((HX.out.far _ _ (by omega)).far _ _ (by omega)).drew, ((HZ.out.far _ _ (by omega)).far _ _ (by omega)).drew, HA.out.set0.set0.drew, ((HB.out.setCell (by show _ ≤ w.heap.size + 2; omega) _).setCell (by show _ ≤ w.heap.size + 2; omega) _).drew, ⟨E0.out, HC.out.2.1, HC.out.2.2.1, HC.out.2.2.2⟩⟩, by simp [intOf]⟩
        · go_wp2_with fail
          exact ⟨⟨2, a, _, c, d, by omega, rfl, HX.out.far _ _ (by omega), HZ.out.far _ _ (by omega), HA.out.set1, HB.out.setCell (by show _ ≤ w.heap.size + 2; omega) _, ⟨HC.out.1, E1.out, HC.out.2.2.1, HC.out.2.2.2⟩⟩, by simp [intOf]⟩
        · obtain ⟨z0, z1, z2, z3, zf⟩ := HZ.out
          go_wp2_with fail
          have hr := (((HZ.out.set0 (y := a)).set1 (y := b)).set2 (y := c)).set3 (y := d)
          obtain ⟨r0, r1, r2, r3, _⟩ := hr
          refine bodyPost_ret (v := .agg #[.int .i64 a, .int .i64 b, .int .i64 c, .int .i64 d]) (by simp [results, Tryd.results11, go_sem, r0, r1, r2, r3]) rfl ⟨?_, below_sets HB.out (by omega)⟩
          obtain ⟨g0, g1, g2, g3⟩ := HC.out
          rw [g0, g1, g2, g3, ← E2.out, ← E3.out]

end Go.Proofs.YthbcnieekpjhcaaDoor.Wk
