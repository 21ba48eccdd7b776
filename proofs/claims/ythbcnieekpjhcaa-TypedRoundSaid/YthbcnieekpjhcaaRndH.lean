/- TypedRound's walk (function 6): written by mkround.py. -/
import Derived.Test.YthbcnieekpjhcaaOrdW
import Derived.Test.YthbcnieekpjhcaaRndP
import Derived.Test.YthbcnieekpjhcaaReads
namespace Go.Proofs.Ythbcnieekpjhcaa.Leaf
open Go.RowKit Go.Proofs.YthbcnieekpjhcaaW.PrintWords Go.Proofs.YthbcnieekpjhcaaW.PrintLast Go.Proofs.YthbcnieekpjhcaaW.PrintMore Go.Proofs.Ythbcnieekpjhcaa.Fl
set_option linter.unusedVariables false
set_option linter.unusedSimpArgs false

/-- A Pair. -/
structure Pr where
  i : Int
  j : Int
  u : Int
  v : Int
  f : Nat
  g : Nat
  b : Bool
  c : Bool
  s : ByteArray
  t : ByteArray
abbrev prV (p : Pr) : Value := .agg #[.int .i64 p.i, .int .i64 p.j, .int .u64 p.u, .int .u64 p.v, .float .f64 p.f, .float .f64 p.g, .bool p.b, .bool p.c, .string p.s, .string p.t]
abbrev prObj (p : Pr) : Obj := .cells #[.int .i64 p.i, .int .i64 p.j, .int .u64 p.u, .int .u64 p.v, .float .f64 p.f, .float .f64 p.g, .bool p.b, .bool p.c, .string p.s, .string p.t] 36
theorem pr_cells {p : Pr} {w x : World} (h : Below (w.heap.size + 1) (w.alloc (prObj p)) x) :
    x.cell? ⟨w.heap.size, 0, none⟩ = some (.int .i64 p.i) ∧ x.cell? ⟨w.heap.size, 1, none⟩ = some (.int .i64 p.j) ∧ x.cell? ⟨w.heap.size, 2, none⟩ = some (.int .u64 p.u) ∧ x.cell? ⟨w.heap.size, 3, none⟩ = some (.int .u64 p.v) ∧
    x.cell? ⟨w.heap.size, 4, none⟩ = some (.float .f64 p.f) ∧ x.cell? ⟨w.heap.size, 5, none⟩ = some (.float .f64 p.g) ∧ x.cell? ⟨w.heap.size, 6, none⟩ = some (.bool p.b) ∧ x.cell? ⟨w.heap.size, 7, none⟩ = some (.bool p.c) ∧
    x.cell? ⟨w.heap.size, 8, none⟩ = some (.string p.s) ∧ x.cell? ⟨w.heap.size, 9, none⟩ = some (.string p.t) := by
  have e : ∀ o, x.cell? ⟨w.heap.size, o, none⟩ = (w.alloc (prObj p)).cell? ⟨w.heap.size, o, none⟩ := fun o => h.cell (p := ⟨w.heap.size, o, none⟩) (by simp)
  simp only [e, prObj]
  refine ⟨?_, ?_, ?_, ?_, ?_, ?_, ?_, ?_, ?_, ?_⟩ <;> go_simp

structure PrOk (p : Pr) : Prop where
  i0 : -9223372036854775808 ≤ p.i
  i1 : p.i ≤ 9223372036854775807
  j0 : -9223372036854775808 ≤ p.j
  j1 : p.j ≤ 9223372036854775807
  u0 : 0 ≤ p.u
  u1 : p.u < 18446744073709551616
  v0 : 0 ≤ p.v
  v1 : p.v < 18446744073709551616
  hf : p.f < 18446744073709551616
  hg : p.g < 18446744073709551616

theorem rA_fin {p : Pr} {w x : World} (h : Below (w.heap.size + 1) (w.alloc (prObj p)) x) : Below w.heap.size w x :=
  ((Below.refl w.heap.size w).alloc (Nat.le_refl _) _).trans (h.mono (by omega))
/-- behind the Text's variable -/
theorem rB_in {p : Pr} {m : Int} {w y x : World} (hy : Below (w.heap.size + 1) (w.alloc (prObj p)) y) (h : Below (y.heap.size + 1) (y.alloc (txtObj m)) x) : Below (w.heap.size + 1) (w.alloc (prObj p)) x := by
  have hs := hy.size
  exact (hy.alloc (by simp at hs; omega) _).trans (h.mono (by simp at hs; omega))
theorem rB_cells {p : Pr} {m : Int} {w y x : World} (hy : Below (w.heap.size + 1) (w.alloc (prObj p)) y) (h : Below (y.heap.size + 1) (y.alloc (txtObj m)) x) :
    x.cell? ⟨w.heap.size, 1, none⟩ = some (.int .i64 p.j) ∧ x.cell? ⟨w.heap.size, 7, none⟩ = some (.bool p.c) ∧ x.cell? ⟨w.heap.size, 8, none⟩ = some (.string p.s) ∧ x.cell? ⟨y.heap.size, 0, none⟩ = some (.int .i64 m) := by
  obtain ⟨-, c1, -, -, -, -, -, c7, c8, -⟩ := pr_cells (rB_in hy h)
  exact ⟨c1, c7, c8, txt_cell h⟩
abbrev rC (m : Int) (s : ByteArray) (c : Bool) (j : Int) (z : World) : World := (z.alloc (sbObj m)).alloc (tsObj s c j)
theorem rC_cells {m j : Int} {s : ByteArray} {c : Bool} {z x : World} (h : Below (z.heap.size + 2) (rC m s c j z) x) :
    x.cell? ⟨z.heap.size, 0, none⟩ = some (.iface 50 (.agg #[.int .i64 m])) ∧ x.cell? ⟨z.heap.size, 1, none⟩ = some (.iface 59 biV) ∧
    x.cell? ⟨z.heap.size + 1, 0, none⟩ = some (.string s) ∧ x.cell? ⟨z.heap.size + 1, 1, none⟩ = some (.bool c) ∧ x.cell? ⟨z.heap.size + 1, 2, none⟩ = some (.int .i64 j) := by
  obtain ⟨a, b, c, d, e, -, -, -⟩ := sbW_cells h
  exact ⟨a, b, c, d, e⟩
theorem rC_fin {m j : Int} {s : ByteArray} {c : Bool} {p : Pr} {w z x : World} (hz : Below (w.heap.size + 1) (w.alloc (prObj p)) z) (h : Below (z.heap.size + 2) (rC m s c j z) x) : Below w.heap.size w x := by
  have hs := hz.size
  refine rA_fin (((hz.alloc (by simp at hs; omega) (sbObj m)).alloc (by simp at hs ⊢; omega) (tsObj s c j)).trans (h.mono (by simp at hs; omega)))
end Go.Proofs.Ythbcnieekpjhcaa.Leaf
