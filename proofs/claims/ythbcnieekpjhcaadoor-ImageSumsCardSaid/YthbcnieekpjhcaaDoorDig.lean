/- The reference's digits, xor, whole: what each call returns. -/
import Derived.Test.YthbcnieekpjhcaaDoorArr
set_option linter.unusedVariables false
set_option linter.unusedSimpArgs false
namespace Go.Proofs.YthbcnieekpjhcaaDoor.Wk
open Go Go.RowKit

theorem below_sets {w wr : World} {b : Nat} {x0 x1 x2 x3 : Int} (h : Below w.heap.size w wr) (hb : w.heap.size ≤ b) :
    Below w.heap.size w ((((wr.setCell ⟨b, 0, none⟩ (.int .i64 x0)).setCell ⟨b, 1, none⟩ (.int .i64 x1)).setCell ⟨b, 2, none⟩ (.int .i64 x2)).setCell ⟨b, 3, none⟩ (.int .i64 x3)) :=
  (((h.setCell hb _).setCell hb _).setCell hb _).setCell hb _

def DigC (x : Int) (k : Nat) (y a b c d : Int) : Prop :=
  match k with
  | 0 => y = x
  | 1 => y = x / 65536 ∧ a = Pu.d0 x
  | 2 => y = x / 4294967296 ∧ a = Pu.d0 x ∧ b = Pu.d1 x
  | 3 => y = x / 281474976710656 ∧ a = Pu.d0 x ∧ b = Pu.d1 x ∧ c = Pu.d2 x
  | _ => a = Pu.d0 x ∧ b = Pu.d1 x ∧ c = Pu.d2 x ∧ d = Pu.d3 x
theorem DigC.s0 {x y a b c d : Int} (h : DigC x 0 y a b c d) : DigC x 1 (y / 65536) (y % 65536) b c d := by
  obtain rfl : y = x := h
  exact ⟨rfl, rfl⟩
theorem DigC.s1 {x y a b c d : Int} (h : DigC x 1 y a b c d) : DigC x 2 (y / 65536) a (y % 65536) c d := by
  obtain ⟨rfl, h1⟩ := h
  exact ⟨by omega, h1, rfl⟩
theorem DigC.s2 {x y a b c d : Int} (h : DigC x 2 y a b c d) : DigC x 3 (y / 65536) a b (y % 65536) d := by
  obtain ⟨rfl, h1, h2⟩ := h
  exact ⟨by omega, h1, h2, rfl⟩
theorem DigC.s3 {x y a b c d : Int} (h : DigC x 3 y a b c d) : DigC x 4 (y / 65536) a b c (y % 65536) := by
  obtain ⟨rfl, h1, h2, h3⟩ := h
  exact ⟨h1, h2, h3, rfl⟩
theorem DigC.out {x y a b c d : Int} (h : DigC x 4 y a b c d) : a = Pu.d0 x ∧ b = Pu.d1 x ∧ c = Pu.d2 x ∧ d = Pu.d3 x := h

def DigR (x : Int) (w : World) (v i : Value) (wr : World) : Prop :=
  ∃ (k : Nat) (y a b c d : Int), k ≤ 4 ∧ i = .int .i64 k ∧ v = .int .u64 y ∧ Arr4 wr (w.heap.size + 1) a b c d ∧ Arr4 wr w.heap.size 0 0 0 0 ∧ Below w.heap.size w wr ∧ 0 ≤ y ∧ y < 18446744073709551616 ∧ DigC x k y a b c d

set_option maxHeartbeats 2000000 in
set_option maxRecDepth 100000 in
theorem digits_call (x : Int) (w : World) (h0 : 0 ≤ x) (h1 : x < 18446744073709551616) :
    Calls Tryd.prog 9 #[.int .u64 x] w fun e w' => e = .returned (agg4 x) ∧ Below w.heap.size w w' := by
  go_enter Tryd.func9, Tryd.ntmps9
  go_wp2_with fail
  go_loopw [0, 4] (fun v i wr => DigR x w v i wr) (fun v i wr => 4 - (intOf i).toNat)
  case atStart =>
    refine ⟨0, x, 0, 0, 0, 0, by omega, rfl, rfl, ?_, ?_, ?_, h0, h1, show DigC x 0 x 0 0 0 0 from rfl⟩
    · have h := Arr4.new (x0 := 0) (x1 := 0) (x2 := 0) (x3 := 0) (w.alloc (.cells #[.int .i64 0, .int .i64 0, .int .i64 0, .int .i64 0] 30))
      simpa using h
    · exact (Arr4.new w).alloc _
    · exact (((Below.refl w.heap.size w).alloc (Nat.le_refl _) _).alloc (by simp) _)
  case round =>
    obtain ⟨k, y, a, b, c, d, hk, rfl, rfl, HA0, HZ0, HB0, y0, y1, HC0⟩ := hrel
    have HA := Lib.hid HA0
    have HZ := Lib.hid HZ0
    have HB := Lib.hid HB0
    have HC := Lib.hid HC0
    clear HA0 HZ0 HB0 HC0
    obtain ⟨c0, c1, c2, c3, fr⟩ := HA.out
    have hq : IntKind.u64.wrap (y.tdiv 65536) = y / 65536 := IntWalk.u64_quo y 65536 (by omega)
    by_cases hlt : k < 4
    · obtain rfl | rfl | rfl | rfl : k = 0 ∨ k = 1 ∨ k = 2 ∨ k = 3 := by omega
      · go_wp2_with fail
        refine ⟨⟨1, y / 65536, y % 65536, b, c, d, by omega, rfl, rfl, HA.out.set0, HZ.out.far _ _ (by omega), HB.out.setCell (by simp) _, by omega, by omega, ?_⟩, by simp [intOf]⟩
        exact DigC.s0 HC.out
      · go_wp2_with fail
        refine ⟨⟨2, y / 65536, a, y % 65536, c, d, by omega, rfl, rfl, HA.out.set1, HZ.out.far _ _ (by omega), HB.out.setCell (by simp) _, by omega, by omega, ?_⟩, by simp [intOf]⟩
        exact DigC.s1 HC.out
      · go_wp2_with fail
        refine ⟨⟨3, y / 65536, a, b, y % 65536, d, by omega, rfl, rfl, HA.out.set2, HZ.out.far _ _ (by omega), HB.out.setCell (by simp) _, by omega, by omega, ?_⟩, by simp [intOf]⟩
        exact DigC.s2 HC.out
      · go_wp2_with fail
        refine ⟨⟨4, y / 65536, a, b, c, y % 65536, by omega, rfl, rfl, HA.out.set3, HZ.out.far _ _ (by omega), HB.out.setCell (by simp) _, by omega, by omega, ?_⟩, by simp [intOf]⟩
        exact DigC.s3 HC.out
    · obtain rfl : k = 4 := by omega
      obtain ⟨z0, z1, z2, z3, zf⟩ := HZ.out
      go_wp2_with fail
      have hr := (((HZ.out.set0 (y := a)).set1 (y := b)).set2 (y := c)).set3 (y := d)
      obtain ⟨r0, r1, r2, r3, _⟩ := hr
      refine bodyPost_ret (v := .agg #[.int .i64 a, .int .i64 b, .int .i64 c, .int .i64 d]) (by simp [results, Tryd.results9, go_sem, r0, r1, r2, r3]) rfl ⟨?_, below_sets HB.out (Nat.le_refl _)⟩
      obtain ⟨rfl, rfl, rfl, rfl⟩ := DigC.out HC.out
      rfl
end Go.Proofs.YthbcnieekpjhcaaDoor.Wk
