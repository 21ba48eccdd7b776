/- TypedOrder returns true, for every Pair. -/
import Derived.Test.YthbcnieekpjhcaaOrderW
namespace Go.Proofs.Ythbcnieekpjhcaa.Leaf
open Go.RowKit Go.Proofs.YthbcnieekpjhcaaW.PrintWords Go.Proofs.YthbcnieekpjhcaaW.PrintLast Go.Proofs.YthbcnieekpjhcaaW.PrintMore Go.Proofs.Ythbcnieekpjhcaa.Fl
set_option linter.unusedVariables false
set_option linter.unusedSimpArgs false

theorem twos_call (p : Pr) (h : PrOk p) (w : World) :
    Calls Try.prog 17 #[prV p, .bool (decide (p.i < p.j)), .bool (decide (p.i = p.j))] w fun e w' => e = .returned (.bool true) ∧ Below w.heap.size w w' := by
  have a := h.i0; have b := h.i1; have c := h.j0; have d := h.j1
  have fr := fkey_range p.f h.hf
  have gr := fkey_range p.g h.hg
  have fl := float_less p.f p.g h.hf h.hg
  refine twos_run p _ _ _ _ _ _ _ _ w (fun w => bif_pack p.i p.f w h.i0 h.i1 h.hf) (fun w => bif_pack p.j p.g w h.j0 h.j1 h.hg) (fun w => number_f64 p.f w) (fun w => number_f64 p.g w) (fun w => below_f64 p.f p.g w) rfl ?_ ?_ ?_
  · have h1 := be8_size (p.i + 9223372036854775808)
    have h2 := be8_size (fkey p.f)
    rw [ByteArray.size_append]; omega
  · rw [pair_less _ _ _ _ (by omega) (by omega) fr gr, fl.1]
    congr 1
    · exact decide_eq_decide.mpr (by omega)
    · congr 1
      exact decide_eq_decide.mpr (by omega)
  · rw [beq_str]
    show _ = (decide (p.i = p.j) && alikeF p.f p.g)
    by_cases e : p.i = p.j
    · rw [decide_eq_true e, Bool.true_and]
      have h3 : (be8 (p.i + 9223372036854775808) ++ be8 (fkey p.f) = be8 (p.j + 9223372036854775808) ++ be8 (fkey p.g)) ↔ alikeF p.f p.g = true := by
        rw [pair_eq _ _ _ _ (by omega) (by omega) fr gr, fl.2, e]; simp
      cases k : alikeF p.f p.g with
      | true => exact decide_eq_true (h3.mpr k)
      | false => exact decide_eq_false (fun hh => by have := h3.mp hh; rw [k] at this; cases this)
    · rw [decide_eq_false e, Bool.false_and]
      refine decide_eq_false (fun hh => e ?_)
      have := ((pair_eq _ _ _ _ (by omega) (by omega) fr gr).mp hh).1
      omega

theorem order_walk (p : Pr) (h : PrOk p) (w : World) : Calls Try.prog 5 #[prV p] w fun e w' => e = .returned (.bool true) ∧ Below w.heap.size w w' := by
  have a := h.i0; have b := h.i1; have c := h.j0; have d := h.j1
  have fr := fkey_range p.f h.hf
  have gr := fkey_range p.g h.hg
  have fl := float_less p.f p.g h.hf h.hg
  have beqd : ∀ x y : Int, (x == y) = decide (x = y) := fun x y => by
    by_cases e : x = y
    · subst e; simp
    · rw [decide_eq_false e]; exact beq_eq_false_iff_ne.mpr e
  have s8 : ∀ x, ((be8 x).size : Int) = 8 := fun x => by rw [be8_size]; rfl
  have s1 : ∀ x, ((packB x).size : Int) = 1 := fun x => by cases x <;> rfl
  refine order_run p _ _ _ _ _ _ _ _ (decide (p.i < p.j)) (decide (p.i = p.j)) (decide (p.u < p.v)) (decide (p.u = p.v)) _ _ _ _ w
    (fun w => int_pack p.i w h.i0 h.i1) (fun w => int_pack p.j w h.j0 h.j1) (fun w => uint_pack p.u w) (fun w => uint_pack p.v w) (fun w => float_pack p.f w h.hf) (fun w => float_pack p.g w h.hg)
    (fun w => bool_pack p.b w) (fun w => bool_pack p.c w) (fun w => below_f64 p.f p.g w) (fun w => number_f64 p.f w) (fun w => number_f64 p.g w) (fun w => texts_call p w) (fun w => twos_call p h w) rfl
    (s8 _) (s8 _) (s8 _) (s8 _) (s8 _) (s8 _) (s1 _) (s1 _) ?_ rfl ?_ (beqd _ _) ?_ rfl ?_ (beqd _ _) ?_ ?_ (packB_less _ _) ?_
  · rw [be8_less _ _ (by omega) (by omega)]; exact decide_eq_decide.mpr (by omega)
  · rw [beq_str]; exact decide_eq_decide.mpr (by rw [be8_eq _ _ (by omega) (by omega)]; omega)
  · exact be8_less _ _ ⟨h.u0, h.u1⟩ ⟨h.v0, h.v1⟩
  · rw [beq_str]; exact decide_eq_decide.mpr (be8_eq _ _ ⟨h.u0, h.u1⟩ ⟨h.v0, h.v1⟩)
  · rw [be8_less _ _ fr gr]; exact fl.1
  · rw [beq_str]
    show _ = alikeF p.f p.g
    have h3 := (be8_eq _ _ fr gr).trans fl.2
    cases k : alikeF p.f p.g with
    | true => exact decide_eq_true (h3.mpr k)
    | false => exact decide_eq_false (fun hh => by have := h3.mp hh; rw [k] at this; cases this)
  · rw [beq_str]
    have h3 := packB_eq p.b p.c
    cases k : (p.b == p.c) with
    | true => exact decide_eq_true (h3.mpr (eq_of_beq k))
    | false => exact decide_eq_false (fun hh => by have := h3.mp hh; rw [this] at k; simp at k)
end Go.Proofs.Ythbcnieekpjhcaa.Leaf
