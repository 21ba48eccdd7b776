/- Both.Width and Both.Unpack, walked. -/
import Derived.Test.YthbcnieekpjhcaaBothC
namespace Go.Proofs.Ythbcnieekpjhcaa.Leaf
open Go.RowKit Go.Proofs.YthbcnieekpjhcaaW.PrintWords Go.Proofs.YthbcnieekpjhcaaW.PrintLast Go.Proofs.YthbcnieekpjhcaaW.PrintMore
set_option linter.unusedVariables false
set_option linter.unusedSimpArgs false

theorem widthT_range (m : Int) : 0 ≤ widthT m ∧ widthT m ≤ 128 := by unfold widthT; split <;> omega
theorem both_fin {m : Int} {w x : World} (h : Below (w.heap.size + 1) (w.alloc (bothObj m)) x) : Below w.heap.size w x := below_box0.trans (h.mono (by omega))

def BothAt (m : Int) (W : World) (n : Nat) (x : World) : Prop :=
  Below (n + 1) W x ∧ x.cell? ⟨n, 0, none⟩ = some (.iface 50 (.agg #[.int .i64 m])) ∧ x.cell? ⟨n, 1, none⟩ = some (.iface 37 (.agg #[]))

set_option maxRecDepth 100000 in
set_option maxHeartbeats 4000000 in
theorem both_width (m : Int) (w : World) : Calls Try.prog 59 #[bothV m] w fun e w' => e = .returned (.int .i64 (widthT m + 8)) ∧ Below w.heap.size w w' := by
  have h0 : Below (w.heap.size + 1) (w.alloc (bothObj m)) (w.alloc (bothObj m)) := Below.refl _ _
  have hW := both_size m w
  have m1 := m_twidth
  have m2 := m_uwidth
  have hc := fun w => text_width m w
  have hr := widthT_range m
  have hwr : IntKind.i64.wrap (widthT m + 8) = widthT m + 8 := by rw [IntKind.wrap_i64]; omega
  generalize widthT m = t at *
  have HC := Lib.hid hc
  clear hc hr
  go_enter Try.func59, Try.ntmps59
  go_wp2_with fail
  go_region_held3 (fun x => Below (w.heap.size + 1) (w.alloc (bothObj m)) x ∧ x.cell? ⟨w.heap.size, 0, none⟩ = some (.iface 50 (.agg #[.int .i64 m])) ∧ x.cell? ⟨w.heap.size, 1, none⟩ = some (.iface 37 (.agg #[])))
    ((refine (fun h => ⟨h, both_cells h⟩) ?_; repeat (first | assumption | apply Below.drew)))
    (first | (go_at_call 23; refine (call_in (HC.out _) hW (by repeat (first | assumption | apply Below.drew))).mono ?_; rintro e wa ⟨rfl, ha⟩) | (go_at_call 34; refine (call_in (uint_width _) hW (by repeat (first | assumption | apply Below.drew))).mono ?_; rintro e wb ⟨rfl, hb⟩))
  all_goals
    go_wp2_with fail
    go_ret
    exact ⟨rfl, both_fin (by repeat (first | assumption | apply Below.drew))⟩
end Go.Proofs.Ythbcnieekpjhcaa.Leaf
