/- Both[int64, float64].Pack, walked. -/
import Derived.Test.YthbcnieekpjhcaaOrdW
namespace Go.Proofs.Ythbcnieekpjhcaa.Leaf
open Go.RowKit Go.Proofs.YthbcnieekpjhcaaW.PrintWords Go.Proofs.YthbcnieekpjhcaaW.PrintLast Go.Proofs.YthbcnieekpjhcaaW.PrintMore Go.Proofs.Ythbcnieekpjhcaa.Fl
set_option linter.unusedVariables false
set_option linter.unusedSimpArgs false

abbrev bifV : Value := .agg #[.iface 30 (.agg #[]), .iface 33 (.agg #[])]
abbrev bifObj : Obj := .cells #[.iface 30 (.agg #[]), .iface 33 (.agg #[])] 80
abbrev ifV (i : Int) (f : Nat) : Value := .agg #[.int .i64 i, .float .f64 f]
abbrev ifObj (i : Int) (f : Nat) : Obj := .cells #[.int .i64 i, .float .f64 f] 83
theorem m_ipack (w : World) : (method 222 30 (.agg #[]) "Pack").run Try.prog w = .ok (9, .agg #[]) w := by kernel_rfl
theorem m_fpack (w : World) : (method 222 33 (.agg #[]) "Pack").run Try.prog w = .ok (11, .agg #[]) w := by kernel_rfl
abbrev pifW (i : Int) (f : Nat) (w : World) : World := (w.alloc bifObj).alloc (ifObj i f)
theorem pifW_cells {i : Int} {f : Nat} {w x : World} (h : Below (w.heap.size + 2) (pifW i f w) x) :
    x.cell? ⟨w.heap.size, 0, none⟩ = some (.iface 30 (.agg #[])) ∧ x.cell? ⟨w.heap.size, 1, none⟩ = some (.iface 33 (.agg #[])) ∧
    x.cell? ⟨w.heap.size + 1, 0, none⟩ = some (.int .i64 i) ∧ x.cell? ⟨w.heap.size + 1, 1, none⟩ = some (.float .f64 f) := by
  have e : ∀ o, x.cell? ⟨w.heap.size, o, none⟩ = (pifW i f w).cell? ⟨w.heap.size, o, none⟩ := fun o => h.cell (p := ⟨w.heap.size, o, none⟩) (by simp)
  have e' : ∀ o, x.cell? ⟨w.heap.size + 1, o, none⟩ = (pifW i f w).cell? ⟨w.heap.size + 1, o, none⟩ := fun o => h.cell (p := ⟨w.heap.size + 1, o, none⟩) (by simp)
  simp only [e, e', pifW, bifObj, ifObj]
  refine ⟨?_, ?_, ?_, ?_⟩ <;> go_simp
theorem pifW_fin {i : Int} {f : Nat} {w x : World} (h : Below (w.heap.size + 2) (pifW i f w) x) : Below w.heap.size w x :=
  (((Below.refl w.heap.size w).alloc (Nat.le_refl _) bifObj).alloc (by simp) (ifObj i f)).trans (h.mono (by omega))

set_option maxRecDepth 100000 in
theorem bif_pack (i : Int) (f : Nat) (w : World) (i0 : -9223372036854775808 ≤ i) (i1 : i ≤ 9223372036854775807) (hf : f < 18446744073709551616) :
    Calls Try.prog 45 #[bifV, ifV i f] w fun e w' => e = .returned (.tuple #[.string (be8 (i + 9223372036854775808) ++ be8 (fkey f)), .bool true]) ∧ Below w.heap.size w w' := by
  have h0 : Below (w.heap.size + 2) (pifW i f w) (pifW i f w) := Below.refl _ _
  have hW : w.heap.size + 2 ≤ (pifW i f w).heap.size := by simp
  have m1 := m_ipack
  have m2 := m_fpack
  have hc := fun w => int_pack i w i0 i1
  have hd := fun w => float_pack f w hf
  have s1 := be8_size (i + 9223372036854775808)
  have s2 := be8_size (fkey f)
  generalize be8 (i + 9223372036854775808) = X at *
  generalize be8 (fkey f) = Y at *
  have c1 : (X.size + Y.size ≤ 9223372036854775807) = True := eq_true (by omega)
  have c2 : (9223372036854775807 < X.size + Y.size) = False := eq_false (by omega)
  have HC := Lib.hid hc
  have HD := Lib.hid hd
  clear hc hd s1 s2 i0 i1 hf
  go_enter Try.func45, Try.ntmps45
  go_wp2_with fail
  refine (call_in (HC.out _) hW h0).mono ?_
  rintro e w1 ⟨rfl, h1⟩
  clear h0
  obtain ⟨d0, d1, d2, d3⟩ := pifW_cells h1
  go_wp2_with fail
  refine (call_in (HD.out _) hW h1).mono ?_
  rintro e w2 ⟨rfl, h2⟩
  clear h1
  go_wp2_with fail
  go_ret2
  exact ⟨rfl, pifW_fin h2⟩
end Go.Proofs.Ythbcnieekpjhcaa.Leaf
