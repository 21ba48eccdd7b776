/- Two texts of a Pair (function 16). -/
import Derived.Test.YthbcnieekpjhcaaTwosC
namespace Go.Proofs.Ythbcnieekpjhcaa.Leaf
open Go.RowKit Go.Proofs.YthbcnieekpjhcaaW.PrintWords Go.Proofs.YthbcnieekpjhcaaW.PrintLast Go.Proofs.YthbcnieekpjhcaaW.PrintMore Go.Proofs.Ythbcnieekpjhcaa.Fl
set_option linter.unusedVariables false
set_option linter.unusedSimpArgs false

theorem beq_str (x y : ByteArray) : (x.toList == y.toList) = decide (x = y) := by
  rw [ByteArray.toList_eq, ByteArray.toList_eq]
  by_cases h : x = y
  · subst h; simp
  · rw [decide_eq_false h]
    apply Bool.eq_false_iff.mpr
    intro hh
    have h1 := eq_of_beq hh
    exact h (ByteArray.ext (Array.toList_inj.mp h1))

/-- A Pair. -/
structure Pr where
  i : Int
  j : Int
  u : Int
  v : Int
  f : Nat
  g : Nat
  b : Bool
  c : Bool
  s : ByteArray
  t : ByteArray
abbrev prV (p : Pr) : Value := .agg #[.int .i64 p.i, .int .i64 p.j, .int .u64 p.u, .int .u64 p.v, .float .f64 p.f, .float .f64 p.g, .bool p.b, .bool p.c, .string p.s, .string p.t]
abbrev prObj (p : Pr) : Obj := .cells #[.int .i64 p.i, .int .i64 p.j, .int .u64 p.u, .int .u64 p.v, .float .f64 p.f, .float .f64 p.g, .bool p.b, .bool p.c, .string p.s, .string p.t] 36
theorem pr_cells {p : Pr} {w x : World} (h : Below (w.heap.size + 1) (w.alloc (prObj p)) x) :
    x.cell? ⟨w.heap.size, 0, none⟩ = some (.int .i64 p.i) ∧ x.cell? ⟨w.heap.size, 1, none⟩ = some (.int .i64 p.j) ∧ x.cell? ⟨w.heap.size, 2, none⟩ = some (.int .u64 p.u) ∧ x.cell? ⟨w.heap.size, 3, none⟩ = some (.int .u64 p.v) ∧
    x.cell? ⟨w.heap.size, 4, none⟩ = some (.float .f64 p.f) ∧ x.cell? ⟨w.heap.size, 5, none⟩ = some (.float .f64 p.g) ∧ x.cell? ⟨w.heap.size, 6, none⟩ = some (.bool p.b) ∧ x.cell? ⟨w.heap.size, 7, none⟩ = some (.bool p.c) ∧
    x.cell? ⟨w.heap.size, 8, none⟩ = some (.string p.s) ∧ x.cell? ⟨w.heap.size, 9, none⟩ = some (.string p.t) := by
  have e : ∀ o, x.cell? ⟨w.heap.size, o, none⟩ = (w.alloc (prObj p)).cell? ⟨w.heap.size, o, none⟩ := fun o => h.cell (p := ⟨w.heap.size, o, none⟩) (by simp)
  simp only [e, prObj]
  refine ⟨?_, ?_, ?_, ?_, ?_, ?_, ?_, ?_, ?_, ?_⟩ <;> go_simp

abbrev prT (p : Pr) (w : World) : World := (w.alloc (prObj p)).alloc (txtObj 20)
theorem prT_cells {p : Pr} {w x : World} (h : Below (w.heap.size + 2) (prT p w) x) :
    x.cell? ⟨w.heap.size, 8, none⟩ = some (.string p.s) ∧ x.cell? ⟨w.heap.size, 9, none⟩ = some (.string p.t) ∧ x.cell? ⟨w.heap.size + 1, 0, none⟩ = some (.int .i64 20) := by
  have e : ∀ o, x.cell? ⟨w.heap.size, o, none⟩ = (prT p w).cell? ⟨w.heap.size, o, none⟩ := fun o => h.cell (p := ⟨w.heap.size, o, none⟩) (by simp)
  have e' : ∀ o, x.cell? ⟨w.heap.size + 1, o, none⟩ = (prT p w).cell? ⟨w.heap.size + 1, o, none⟩ := fun o => h.cell (p := ⟨w.heap.size + 1, o, none⟩) (by simp)
  simp only [e, e', prT, prObj, txtObj]
  refine ⟨?_, ?_, ?_⟩ <;> go_simp
theorem prT_fin {p : Pr} {w x : World} (h : Below (w.heap.size + 2) (prT p w) x) : Below w.heap.size w x :=
  (((Below.refl w.heap.size w).alloc (Nat.le_refl _) _).alloc (by simp) _).trans (h.mono (by omega))
theorem textIn20 (s : ByteArray) : textIn 20 s = decide ((s.size : Int) ≤ 20) := by
  unfold textIn; simp

set_option maxRecDepth 100000 in
theorem texts_call (p : Pr) (w : World) : Calls Try.prog 16 #[prV p] w fun e w' => e = .returned (.bool true) ∧ Below w.heap.size w w' := by
  have h0 : Below (w.heap.size + 2) (prT p w) (prT p w) := Below.refl _ _
  have hW : w.heap.size + 2 ≤ (prT p w).heap.size := by simp
  have hc := fun w => text_pack 20 p.s w
  have hd := fun w => text_pack 20 p.t w
  simp only [textIn20] at hc hd
  have HC := Lib.hid hc
  have HD := Lib.hid hd
  clear hc hd
  go_enter Try.func16, Try.ntmps16
  go_wp2_with fail
  refine (call_in (HC.out _) hW h0).mono ?_
  rintro e w1 ⟨rfl, h1⟩
  clear h0
  obtain ⟨d0, d1, d2⟩ := prT_cells h1
  go_wp2_with fail
  refine (call_in (HD.out _) hW h1).mono ?_
  rintro e w2 ⟨rfl, h2⟩
  clear h1 d0 d1 d2
  obtain ⟨d0, d1, d2⟩ := prT_cells h2
  by_cases hs : (p.s.size : Int) ≤ 20
  · by_cases ht : (p.t.size : Int) ≤ 20
    · have es : decide ((p.s.size : Int) ≤ 20) = true := decide_eq_true hs
      have et : decide ((p.t.size : Int) ≤ 20) = true := decide_eq_true ht
      have hps : packT 20 p.s = textOf 20 p.s := by unfold packT; rw [textIn20, es]; rfl
      have hpt : packT 20 p.t = textOf 20 p.t := by unfold packT; rw [textIn20, et]; rfl
      have e21 : ((packT 20 p.s).size : Int) = 21 := by rw [hps, textOf_size' 20 p.s (by omega) hs]; rfl
      have eL : Op.bytesLess (packT 20 p.s).toList (packT 20 p.t).toList = Op.bytesLess p.s.toList p.t.toList := by rw [hps, hpt]; exact text_less 20 p.s p.t (by omega) (by omega) hs ht
      have eE : packT 20 p.s = packT 20 p.t ↔ p.s = p.t := by rw [hps, hpt]; exact text_eq 20 p.s p.t (by omega) (by omega) hs ht
      clear hs ht hps hpt
      go_wp2_with fail
      go_ret
      refine ⟨?_, prT_fin h2⟩
      rw [show ((packT 20 p.s).toList == (packT 20 p.t).toList) = (p.s.toList == p.t.toList) from by rw [beq_str, beq_str]; simp only [eE]]
      simp
    · have es : decide ((p.s.size : Int) ≤ 20) = true := decide_eq_true hs
      have et : decide ((p.t.size : Int) ≤ 20) = false := decide_eq_false ht
      clear hs ht
      go_wp2_with fail
      go_ret
      exact ⟨rfl, prT_fin h2⟩
  · have es : decide ((p.s.size : Int) ≤ 20) = false := decide_eq_false hs
    clear hs
    go_wp2_with fail
    go_ret
    exact ⟨rfl, prT_fin h2⟩
end Go.Proofs.Ythbcnieekpjhcaa.Leaf
