/- The reference's whole: the number of four digits. -/
import Derived.Test.YthbcnieekpjhcaaDoorXor
set_option linter.unusedVariables false
set_option linter.unusedSimpArgs false
namespace Go.Proofs.YthbcnieekpjhcaaDoor.Wk
open Go Go.RowKit

def WhoV (x : Int) (k : Nat) : Int := match k with | 0 => 0 | 1 => x / 281474976710656 | 2 => x / 4294967296 | 3 => x / 65536 | _ => x
def WhoR (x : Int) (w : World) (v i : Value) (wr : World) : Prop :=
  ∃ (k : Nat), k ≤ 4 ∧ i = .int .i64 (3 - (k : Int)) ∧ v = .int .u64 (WhoV x k) ∧ Arr4 wr w.heap.size (Pu.d0 x) (Pu.d1 x) (Pu.d2 x) (Pu.d3 x) ∧ Below w.heap.size w wr

theorem who_step (v d r : Int) (h0 : 0 ≤ v) (h1 : v < 281474976710656) (d0 : 0 ≤ d) (d1 : d < 65536) (h : v * 65536 + d = r) : IntKind.u64.wrap (IntKind.u64.wrap (v * 65536) + IntKind.u64.wrap d) = r := by
  rw [IntWalk.u64_in (v * 65536) (by omega), IntWalk.u64_in d (by omega), IntWalk.u64_in _ (by omega)]; exact h

set_option maxHeartbeats 1000000 in
set_option maxRecDepth 100000 in
theorem whole_call (x : Int) (w : World) (hx : 0 ≤ x ∧ x < 18446744073709551616) :
    Calls Tryd.prog 12 #[agg4 x] w fun e w' => e = .returned (.int .u64 x) ∧ Below w.heap.size w w' := by
  have hd := Pu.d_range x
  have S0 := Lib.hid (who_step 0 (Pu.d3 x) (x / 281474976710656) (by omega) (by omega) (by omega) (by omega) (by unfold Pu.d3; omega))
  have S1 := Lib.hid (who_step (x / 281474976710656) (Pu.d2 x) (x / 4294967296) (by omega) (by omega) (by omega) (by omega) (by unfold Pu.d2; omega))
  have S2 := Lib.hid (who_step (x / 4294967296) (Pu.d1 x) (x / 65536) (by omega) (by omega) (by omega) (by omega) (by unfold Pu.d1; omega))
  have S3 := Lib.hid (who_step (x / 65536) (Pu.d0 x) x (by omega) (by omega) (by omega) (by omega) (by unfold Pu.d0; omega))
  clear hd hx
  unfold agg4
  go_enter Tryd.func12, Tryd.ntmps12
  go_wp2_with fail
  go_loopw [3, 4] (fun v i wr => WhoR x w v i wr) (fun v i wr => (intOf i + 1).toNat)
  case atStart =>
    exact ⟨0, by omega, rfl, rfl, Arr4.new w, (Below.refl w.heap.size w).alloc (Nat.le_refl _) _⟩
  case round =>
    obtain ⟨k, hk, rfl, rfl, HX0, HB0⟩ := hrel
    have HX := Lib.hid HX0
    have HB := Lib.hid HB0
    clear HX0 HB0
    obtain ⟨p0, p1, p2, p3, _⟩ := HX.out
    obtain rfl | rfl | rfl | rfl | rfl : k = 0 ∨ k = 1 ∨ k = 2 ∨ k = 3 ∨ k = 4 := by omega
    · simp only [WhoV]
      go_wp2_with fail
      exact ⟨⟨1, by omega, rfl, congrArg (Value.int .u64) (by have q := S0.out; rw [Int.zero_mul, IntWalk.u64_in 0 (by omega), Int.zero_add] at q; exact q), HX.out, HB.out⟩, by simp [intOf]⟩
    · simp only [WhoV]
      go_wp2_with fail
      exact ⟨⟨2, by omega, rfl, congrArg (Value.int .u64) S1.out, HX.out, HB.out⟩, by simp [intOf]⟩
    · simp only [WhoV]
      go_wp2_with fail
      exact ⟨⟨3, by omega, rfl, congrArg (Value.int .u64) S2.out, HX.out, HB.out⟩, by simp [intOf]⟩
    · simp only [WhoV]
      go_wp2_with fail
      exact ⟨⟨4, by omega, rfl, congrArg (Value.int .u64) S3.out, HX.out, HB.out⟩, by simp [intOf]⟩
    · simp only [WhoV]
      go_wp2_with fail
      go_ret
      exact ⟨rfl, HB.out⟩
end Go.Proofs.YthbcnieekpjhcaaDoor.Wk
