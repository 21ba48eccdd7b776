/- The reference's times, walked. -/
import Derived.Test.YthbcnieekpjhcaaDoorTim
set_option linter.unusedVariables false
set_option linter.unusedSimpArgs false
namespace Go.Proofs.YthbcnieekpjhcaaDoor.Wk
open Go Go.RowKit

def Rows2 (x y : Int) (w wr : World) : Prop := Arr4 wr w.heap.size (Pu.d0 x) (Pu.d1 x) (Pu.d2 x) (Pu.d3 x) ∧ Arr4 wr (w.heap.size + 1) (Pu.d0 y) (Pu.d1 y) (Pu.d2 y) (Pu.d3 y) ∧ Arr4 wr (w.heap.size + 2) 0 0 0 0 ∧ Below w.heap.size w wr
theorem Rows2.drew {x y : Int} {w wr : World} (h : Rows2 x y w wr) : Rows2 x y w wr.drew := ⟨h.1.drew, h.2.1.drew, h.2.2.1.drew, h.2.2.2.drew⟩
theorem below_nd {n : Nat} {w w' : World} (h : Below n w w') (k : Nat) : Below n w (w'.drewN k) := ⟨h.os, h.tape, h.output, h.size, h.block⟩
theorem Arr4.drewN {w : World} {b : Nat} {x0 x1 x2 x3 : Int} (h : Arr4 w b x0 x1 x2 x3) (k : Nat) : Arr4 (w.drewN k) b x0 x1 x2 x3 := ⟨h.c0, h.c1, h.c2, h.c3, h.free⟩
theorem Rows2.drewN {x y : Int} {w wr : World} (h : Rows2 x y w wr) (k : Nat) : Rows2 x y w (wr.drewN k) := ⟨h.1.drewN k, h.2.1.drewN k, h.2.2.1.drewN k, below_nd h.2.2.2 k⟩
theorem Rows2.set {x y : Int} {w wr : World} (h : Rows2 x y w wr) (k : Nat) (v : Value) : Rows2 x y w (wr.setCell ⟨w.heap.size + 3, k, none⟩ v) :=
  ⟨h.1.far _ _ (by omega), h.2.1.far _ _ (by omega), h.2.2.1.far _ _ (by omega), h.2.2.2.setCell (by show _ ≤ w.heap.size + 3; omega) _⟩

def rowAt (k : Nat) : Nat := match k with | 0 => 0 | 1 => 4 | 2 => 7 | 3 => 9 | _ => 10
def placeOf (p : Nat) : Int := match p with | 0 => 1 | 1 => 65536 | 2 => 4294967296 | 3 => 281474976710656 | _ => 18446744073709551616

def TimR (x y : Int) (w : World) (i : Value) (wr : World) : Prop :=
  ∃ (k : Nat) (c0 c1 c2 c3 : Int), k ≤ 4 ∧ i = .int .i64 k ∧ Rows2 x y w wr ∧ Arr4 wr (w.heap.size + 3) c0 c1 c2 c3 ∧ Sum4 x y (rowAt k) 1 0 c0 c1 c2 c3
def InnR (x y : Int) (k : Nat) (w : World) (t j : Value) (wr : World) : Prop :=
  ∃ (n : Nat) (t0 c0 c1 c2 c3 : Int), n ≤ 4 - k ∧ j = .int .i64 n ∧ t = .int .i64 t0 ∧ Rows2 x y w wr ∧ Arr4 wr (w.heap.size + 3) c0 c1 c2 c3 ∧ Sum4 x y (rowAt k + n) (placeOf (k + n)) t0 c0 c1 c2 c3

set_option maxHeartbeats 8000000 in
set_option maxRecDepth 100000 in
theorem times_call (x y : Int) (w : World) (hx : 0 ≤ x ∧ x < 18446744073709551616) (hy : 0 ≤ y ∧ y < 18446744073709551616) :
    Calls Tryd.prog 10 #[agg4 x, agg4 y] w fun e w' => e = .returned (agg4 (x * y % 18446744073709551616)) ∧ Below w.heap.size w w' := by
  have HO := Lib.hid (fun c0 c1 c2 c3 => @Sum4.out x y c0 c1 c2 c3 1 hx hy)
  have hd := Pu.d_range x
  have he := Pu.d_range y
  clear hx hy
  generalize x * y % 18446744073709551616 = z at *
  unfold agg4
  go_enter Tryd.func10, Tryd.ntmps10
  go_wp2_with fail
  go_loopw [6] (fun i wr => TimR x y w i wr) (fun i wr => 4 - (intOf i).toNat)
  case atStart =>
    refine ⟨0, 0, 0, 0, 0, by omega, rfl, ⟨?_, ?_, ?_, ?_⟩, ?_, ?_⟩
    · exact (((Arr4.new w).alloc _).alloc _).alloc _
    · exact ((Arr4.newAt _ _ _ _ _ _ (by simp)).alloc _).alloc _
    · exact (Arr4.newAt _ _ _ _ _ _ (by simp)).alloc _
    · exact (((((Below.refl w.heap.size w).alloc (Nat.le_refl _) _).alloc (by simp) _).alloc (by simp; omega) _).alloc (by simp; omega) _)
    · exact Arr4.newAt _ _ _ _ _ _ (by simp)
    · exact ⟨⟨0, by simp [rowAt, Mul]⟩, by omega, by omega, by omega, by omega, by omega⟩
  case round =>
    obtain ⟨k, c0, c1, c2, c3, hk, rfl, HR0, HA0, HS0⟩ := hrel
    have HR := Lib.hid HR0
    have HA := Lib.hid HA0
    have HS := Lib.hid HS0
    clear HR0 HA0 HS0
    obtain rfl | rfl | rfl | rfl | rfl : k = 0 ∨ k = 1 ∨ k = 2 ∨ k = 3 ∨ k = 4 := by omega
    · go_wp2_with fail
      go_loopw [7, 8] (fun t j wr => InnR x y 0 w t j wr) (fun t j wr => 4 - (intOf j).toNat)
      case atStart => exact ⟨0, 0, c0, c1, c2, c3, by omega, rfl, rfl, HR.out, HA.out, HS.out.at _⟩
      case round =>
        clear HR HA HS
        obtain ⟨j, t0, c0, c1, c2, c3, hj, rfl, rfl, HR0, HA0, HS0⟩ := hrel
        have HR := Lib.hid HR0
        have HA := Lib.hid HA0
        have HS := Lib.hid HS0
        have rr := HS0.rc
        have r0 := HS0.r0
        have r1 := HS0.r1
        have r2 := HS0.r2
        have r3 := HS0.r3
        clear HR0 HA0 HS0
        obtain ⟨p0, p1, p2, p3, pf⟩ := HR.out.1
        obtain ⟨q0, q1, q2, q3, qf⟩ := HR.out.2.1
        obtain ⟨e0, e1, e2, e3, ef⟩ := HA.out
        obtain rfl | rfl | rfl | rfl | rfl : j = 0 ∨ j = 1 ∨ j = 2 ∨ j = 3 ∨ j = 4 := by omega
        · have hp := prod_range (Pu.d0 x) (Pu.d0 y) (by omega) (by omega)
          go_wp2_with fail
          go_quiet (fail)
          go_wp2_with fail
          exact ⟨⟨1, _, _, c1, c2, c3, by omega, rfl, rfl, ((HR.out.drewN _).set 0 _), (HA.out.drewN _).set0, HS.out.s0⟩, by simp [intOf]⟩
        · have hp := prod_range (Pu.d0 x) (Pu.d1 y) (by omega) (by omega)
          go_wp2_with fail
          go_quiet (fail)
          go_wp2_with fail
          exact ⟨⟨2, _, c0, _, c2, c3, by omega, rfl, rfl, ((HR.out.drewN _).set 1 _), (HA.out.drewN _).set1, HS.out.s1⟩, by simp [intOf]⟩
        · have hp := prod_range (Pu.d0 x) (Pu.d2 y) (by omega) (by omega)
          go_wp2_with fail
          go_quiet (fail)
          go_wp2_with fail
          exact ⟨⟨3, _, c0, c1, _, c3, by omega, rfl, rfl, ((HR.out.drewN _).set 2 _), (HA.out.drewN _).set2, HS.out.s2⟩, by simp [intOf]⟩
        · have hp := prod_range (Pu.d0 x) (Pu.d3 y) (by omega) (by omega)
          go_wp2_with fail
          go_quiet (fail)
          go_wp2_with fail
          exact ⟨⟨4, _, c0, c1, c2, _, by omega, rfl, rfl, ((HR.out.drewN _).set 3 _), (HA.out.drewN _).set3, HS.out.s3⟩, by simp [intOf]⟩
        · go_wp2_with fail
          exact ⟨⟨1, c0, c1, c2, c3, by omega, rfl, HR.out, HA.out, HS.out.drop 1⟩, by simp [intOf]⟩
    · go_wp2_with fail
      go_loopw [7, 8] (fun t j wr => InnR x y 1 w t j wr) (fun t j wr => 3 - (intOf j).toNat)
      case atStart => exact ⟨0, 0, c0, c1, c2, c3, by omega, rfl, rfl, HR.out, HA.out, HS.out.at _⟩
      case round =>
        clear HR HA HS
        obtain ⟨j, t0, c0, c1, c2, c3, hj, rfl, rfl, HR0, HA0, HS0⟩ := hrel
        have HR := Lib.hid HR0
        have HA := Lib.hid HA0
        have HS := Lib.hid HS0
        have rr := HS0.rc
        have r0 := HS0.r0
        have r1 := HS0.r1
        have r2 := HS0.r2
        have r3 := HS0.r3
        clear HR0 HA0 HS0
        obtain ⟨p0, p1, p2, p3, pf⟩ := HR.out.1
        obtain ⟨q0, q1, q2, q3, qf⟩ := HR.out.2.1
        obtain ⟨e0, e1, e2, e3, ef⟩ := HA.out
        obtain rfl | rfl | rfl | rfl : j = 0 ∨ j = 1 ∨ j = 2 ∨ j = 3 := by omega
        · have hp := prod_range (Pu.d1 x) (Pu.d0 y) (by omega) (by omega)
          go_wp2_with fail
          go_quiet (fail)
          go_wp2_with fail
          exact ⟨⟨1, _, c0, _, c2, c3, by omega, rfl, rfl, ((HR.out.drewN _).set 1 _), (HA.out.drewN _).set1, HS.out.s4⟩, by simp [intOf]⟩
        · have hp := prod_range (Pu.d1 x) (Pu.d1 y) (by omega) (by omega)
          go_wp2_with fail
          go_quiet (fail)
          go_wp2_with fail
          exact ⟨⟨2, _, c0, c1, _, c3, by omega, rfl, rfl, ((HR.out.drewN _).set 2 _), (HA.out.drewN _).set2, HS.out.s5⟩, by simp [intOf]⟩
        · have hp := prod_range (Pu.d1 x) (Pu.d2 y) (by omega) (by omega)
          go_wp2_with fail
          go_quiet (fail)
          go_wp2_with fail
          exact ⟨⟨3, _, c0, c1, c2, _, by omega, rfl, rfl, ((HR.out.drewN _).set 3 _), (HA.out.drewN _).set3, HS.out.s6⟩, by simp [intOf]⟩
        · go_wp2_with fail
          exact ⟨⟨2, c0, c1, c2, c3, by omega, rfl, HR.out, HA.out, HS.out.drop 1⟩, by simp [intOf]⟩
    · go_wp2_with fail
      go_loopw [7, 8] (fun t j wr => InnR x y 2 w t j wr) (fun t j wr => 2 - (intOf j).toNat)
      case atStart => exact ⟨0, 0, c0, c1, c2, c3, by omega, rfl, rfl, HR.out, HA.out, HS.out.at _⟩
      case round =>
        clear HR HA HS
        obtain ⟨j, t0, c0, c1, c2, c3, hj, rfl, rfl, HR0, HA0, HS0⟩ := hrel
        have HR := Lib.hid HR0
        have HA := Lib.hid HA0
        have HS := Lib.hid HS0
        have rr := HS0.rc
        have r0 := HS0.r0
        have r1 := HS0.r1
        have r2 := HS0.r2
        have r3 := HS0.r3
        clear HR0 HA0 HS0
        obtain ⟨p0, p1, p2, p3, pf⟩ := HR.out.1
        obtain ⟨q0, q1, q2, q3, qf⟩ := HR.out.2.1
        obtain ⟨e0, e1, e2, e3, ef⟩ := HA.out
        obtain rfl | rfl | rfl : j = 0 ∨ j = 1 ∨ j = 2 := by omega
        · have hp := prod_range (Pu.d2 x) (Pu.d0 y) (by omega) (by omega)
          go_wp2_with fail
          go_quiet (fail)
          go_wp2_with fail
          exact ⟨⟨1, _, c0, c1, _, c3, by omega, rfl, rfl, ((HR.out.drewN _).set 2 _), (HA.out.drewN _).set2, HS.out.s7⟩, by simp [intOf]⟩
        · have hp := prod_range (Pu.d2 x) (Pu.d1 y) (by omega) (by omega)
          go_wp2_with fail
          go_quiet (fail)
          go_wp2_with fail
          exact ⟨⟨2, _, c0, c1, c2, _, by omega, rfl, rfl, ((HR.out.drewN _).set 3 _), (HA.out.drewN _).set3, HS.out.s8⟩, by simp [intOf]⟩
        · go_wp2_with fail
          exact ⟨⟨3, c0, c1, c2, c3, by omega, rfl, HR.out, HA.out, HS.out.drop 1⟩, by simp [intOf]⟩
    · go_wp2_with fail
      go_loopw [7, 8] (fun t j wr => InnR x y 3 w t j wr) (fun t j wr => 1 - (intOf j).toNat)
      case atStart => exact ⟨0, 0, c0, c1, c2, c3, by omega, rfl, rfl, HR.out, HA.out, HS.out.at _⟩
      case round =>
        clear HR HA HS
        obtain ⟨j, t0, c0, c1, c2, c3, hj, rfl, rfl, HR0, HA0, HS0⟩ := hrel
        have HR := Lib.hid HR0
        have HA := Lib.hid HA0
        have HS := Lib.hid HS0
        have rr := HS0.rc
        have r0 := HS0.r0
        have r1 := HS0.r1
        have r2 := HS0.r2
        have r3 := HS0.r3
        clear HR0 HA0 HS0
        obtain ⟨p0, p1, p2, p3, pf⟩ := HR.out.1
        obtain ⟨q0, q1, q2, q3, qf⟩ := HR.out.2.1
        obtain ⟨e0, e1, e2, e3, ef⟩ := HA.out
        obtain rfl | rfl : j = 0 ∨ j = 1 := by omega
        · have hp := prod_range (Pu.d3 x) (Pu.d0 y) (by omega) (by omega)
          go_wp2_with fail
          go_quiet (fail)
          go_wp2_with fail
          exact ⟨⟨1, _, c0, c1, c2, _, by omega, rfl, rfl, ((HR.out.drewN _).set 3 _), (HA.out.drewN _).set3, HS.out.s9⟩, by simp [intOf]⟩
        · go_wp2_with fail
          exact ⟨⟨4, c0, c1, c2, c3, by omega, rfl, HR.out, HA.out, HS.out.drop 1⟩, by simp [intOf]⟩
    · obtain ⟨z0, z1, z2, z3, zf⟩ := HR.out.2.2.1
      obtain ⟨e0, e1, e2, e3, ef⟩ := HA.out
      go_wp2_with fail
      have hr := (((HR.out.2.2.1.set0 (y := c0)).set1 (y := c1)).set2 (y := c2)).set3 (y := c3)
      obtain ⟨r0, r1, r2, r3, _⟩ := hr
      refine bodyPost_ret (v := .agg #[.int .i64 c0, .int .i64 c1, .int .i64 c2, .int .i64 c3]) (by simp [results, Tryd.results10, go_sem, r0, r1, r2, r3]) rfl ⟨?_, below_sets HR.out.2.2.2 (by omega)⟩
      obtain ⟨rfl, rfl, rfl, rfl⟩ := HO.out c0 c1 c2 c3 HS.out
      rfl
end Go.Proofs.YthbcnieekpjhcaaDoor.Wk
