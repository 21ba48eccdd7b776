/- Two Twos of a Pair (function 17). -/
import Derived.Test.YthbcnieekpjhcaaPairT
namespace Go.Proofs.Ythbcnieekpjhcaa.Leaf
open Go.RowKit Go.Proofs.YthbcnieekpjhcaaW.PrintWords Go.Proofs.YthbcnieekpjhcaaW.PrintLast Go.Proofs.YthbcnieekpjhcaaW.PrintMore Go.Proofs.Ythbcnieekpjhcaa.Fl
set_option linter.unusedVariables false
set_option linter.unusedSimpArgs false

abbrev prB (p : Pr) (w : World) : World := (w.alloc (prObj p)).alloc bifObj
theorem prB_cells {p : Pr} {w x : World} (h : Below (w.heap.size + 2) (prB p w) x) :
    x.cell? ⟨w.heap.size, 0, none⟩ = some (.int .i64 p.i) ∧ x.cell? ⟨w.heap.size, 1, none⟩ = some (.int .i64 p.j) ∧ x.cell? ⟨w.heap.size, 4, none⟩ = some (.float .f64 p.f) ∧ x.cell? ⟨w.heap.size, 5, none⟩ = some (.float .f64 p.g) ∧
    x.cell? ⟨w.heap.size + 1, 0, none⟩ = some (.iface 30 (.agg #[])) ∧ x.cell? ⟨w.heap.size + 1, 1, none⟩ = some (.iface 33 (.agg #[])) := by
  have e : ∀ o, x.cell? ⟨w.heap.size, o, none⟩ = (prB p w).cell? ⟨w.heap.size, o, none⟩ := fun o => h.cell (p := ⟨w.heap.size, o, none⟩) (by simp)
  have e' : ∀ o, x.cell? ⟨w.heap.size + 1, o, none⟩ = (prB p w).cell? ⟨w.heap.size + 1, o, none⟩ := fun o => h.cell (p := ⟨w.heap.size + 1, o, none⟩) (by simp)
  simp only [e, e', prB, prObj, bifObj]
  refine ⟨?_, ?_, ?_, ?_, ?_, ?_⟩ <;> go_simp
theorem prB_fin {p : Pr} {w x : World} (h : Below (w.heap.size + 2) (prB p w) x) : Below w.heap.size w x :=
  (((Below.refl w.heap.size w).alloc (Nat.le_refl _) _).alloc (by simp) _).trans (h.mono (by omega))

structure PrOk (p : Pr) : Prop where
  i0 : -9223372036854775808 ≤ p.i
  i1 : p.i ≤ 9223372036854775807
  j0 : -9223372036854775808 ≤ p.j
  j1 : p.j ≤ 9223372036854775807
  u0 : 0 ≤ p.u
  u1 : p.u < 18446744073709551616
  v0 : 0 ≤ p.v
  v1 : p.v < 18446744073709551616
  hf : p.f < 18446744073709551616
  hg : p.g < 18446744073709551616

set_option maxRecDepth 100000 in
set_option maxHeartbeats 8000000 in
theorem twos_run (p : Pr) (S T : ByteArray) (le sa bl nf ng oe : Bool) (w : World)
    (hS : ∀ w, Calls Try.prog 45 #[bifV, ifV p.i p.f] w fun e w' => e = .returned (.tuple #[.string S, .bool true]) ∧ Below w.heap.size w w')
    (hT : ∀ w, Calls Try.prog 45 #[bifV, ifV p.j p.g] w fun e w' => e = .returned (.tuple #[.string T, .bool true]) ∧ Below w.heap.size w w')
    (hnf : ∀ w, Calls Try.prog 15 #[.float .f64 p.f] w fun e w' => e = .returned (.bool nf) ∧ Below w.heap.size w w')
    (hng : ∀ w, Calls Try.prog 15 #[.float .f64 p.g] w fun e w' => e = .returned (.bool ng) ∧ Below w.heap.size w w')
    (hbl : ∀ w, Calls Try.prog 14 #[.float .f64 p.f, .float .f64 p.g] w fun e w' => e = .returned (.bool bl) ∧ Below w.heap.size w w')
    (ho : (FloatKind.f64.format.order p.f p.g == some .eq) = oe)
    (e16 : (S.size : Int) = 16) (eL : Op.bytesLess S.toList T.toList = (le || (sa && bl))) (eE : (S.toList == T.toList) = (sa && (oe || (!nf && !ng)))) :
    Calls Try.prog 17 #[prV p, .bool le, .bool sa] w fun e w' => e = .returned (.bool true) ∧ Below w.heap.size w w' := by
  have h0 : Below (w.heap.size + 2) (prB p w) (prB p w) := Below.refl _ _
  have hW : w.heap.size + 2 ≤ (prB p w).heap.size := by simp
  have HS := Lib.hid hS
  have HT := Lib.hid hT
  have HNF := Lib.hid hnf
  have HNG := Lib.hid hng
  have HBL := Lib.hid hbl
  clear hS hT hnf hng hbl
  cases le <;> cases sa <;> cases oe <;> cases nf
  · simp only [Bool.true_or, Bool.false_or, Bool.true_and, Bool.false_and, Bool.and_true, Bool.and_false, Bool.or_false, Bool.or_true, Bool.not_true, Bool.not_false] at eL eE
    go_enter Try.func17, Try.ntmps17
    go_wp2_with fail
    refine (call_in (HS.out _) hW h0).mono ?_
    rintro e w1 ⟨rfl, h1⟩
    clear h0
    obtain ⟨c0, c1, c4, c5, d0, d1⟩ := prB_cells h1
    go_wp2_with fail
    refine (call_in (HT.out _) hW h1).mono ?_
    rintro e w2 ⟨rfl, h2⟩
    clear h1 c0 c1 c4 c5 d0 d1
    obtain ⟨c0, c1, c4, c5, d0, d1⟩ := prB_cells h2
    go_wp2_with fail
    refine (call_in (HNF.out _) hW h2).mono ?_
    rintro e w3 ⟨rfl, h3⟩
    clear h2 c0 c1 c4 c5 d0 d1
    obtain ⟨c0, c1, c4, c5, d0, d1⟩ := prB_cells h3
    all_goals go_wp2_with fail
    refine (call_in (HNG.out _) hW h3).mono ?_
    rintro e w4 ⟨rfl, h4⟩
    clear h3 c0 c1 c4 c5 d0 d1
    obtain ⟨c0, c1, c4, c5, d0, d1⟩ := prB_cells h4
    cases ng
    all_goals go_wp2_with fail
    all_goals
      go_ret
      exact ⟨by simp [*], prB_fin h4⟩
  · simp only [Bool.true_or, Bool.false_or, Bool.true_and, Bool.false_and, Bool.and_true, Bool.and_false, Bool.or_false, Bool.or_true, Bool.not_true, Bool.not_false] at eL eE
    go_enter Try.func17, Try.ntmps17
    go_wp2_with fail
    refine (call_in (HS.out _) hW h0).mono ?_
    rintro e w1 ⟨rfl, h1⟩
    clear h0
    obtain ⟨c0, c1, c4, c5, d0, d1⟩ := prB_cells h1
    go_wp2_with fail
    refine (call_in (HT.out _) hW h1).mono ?_
    rintro e w2 ⟨rfl, h2⟩
    clear h1 c0 c1 c4 c5 d0 d1
    obtain ⟨c0, c1, c4, c5, d0, d1⟩ := prB_cells h2
    go_wp2_with fail
    refine (call_in (HNF.out _) hW h2).mono ?_
    rintro e w3 ⟨rfl, h3⟩
    clear h2 c0 c1 c4 c5 d0 d1
    obtain ⟨c0, c1, c4, c5, d0, d1⟩ := prB_cells h3
    all_goals go_wp2_with fail
    all_goals
      go_ret
      exact ⟨by simp [*], prB_fin h3⟩
  · simp only [Bool.true_or, Bool.false_or, Bool.true_and, Bool.false_and, Bool.and_true, Bool.and_false, Bool.or_false, Bool.or_true, Bool.not_true, Bool.not_false] at eL eE
    go_enter Try.func17, Try.ntmps17
    go_wp2_with fail
    refine (call_in (HS.out _) hW h0).mono ?_
    rintro e w1 ⟨rfl, h1⟩
    clear h0
    obtain ⟨c0, c1, c4, c5, d0, d1⟩ := prB_cells h1
    go_wp2_with fail
    refine (call_in (HT.out _) hW h1).mono ?_
    rintro e w2 ⟨rfl, h2⟩
    clear h1 c0 c1 c4 c5 d0 d1
    obtain ⟨c0, c1, c4, c5, d0, d1⟩ := prB_cells h2
    go_wp2_with fail
    all_goals
      go_ret
      exact ⟨by simp [*], prB_fin h2⟩
  · simp only [Bool.true_or, Bool.false_or, Bool.true_and, Bool.false_and, Bool.and_true, Bool.and_false, Bool.or_false, Bool.or_true, Bool.not_true, Bool.not_false] at eL eE
    go_enter Try.func17, Try.ntmps17
    go_wp2_with fail
    refine (call_in (HS.out _) hW h0).mono ?_
    rintro e w1 ⟨rfl, h1⟩
    clear h0
    obtain ⟨c0, c1, c4, c5, d0, d1⟩ := prB_cells h1
    go_wp2_with fail
    refine (call_in (HT.out _) hW h1).mono ?_
    rintro e w2 ⟨rfl, h2⟩
    clear h1 c0 c1 c4 c5 d0 d1
    obtain ⟨c0, c1, c4, c5, d0, d1⟩ := prB_cells h2
    go_wp2_with fail
    all_goals
      go_ret
      exact ⟨by simp [*], prB_fin h2⟩
  · simp only [Bool.true_or, Bool.false_or, Bool.true_and, Bool.false_and, Bool.and_true, Bool.and_false, Bool.or_false, Bool.or_true, Bool.not_true, Bool.not_false] at eL eE
    go_enter Try.func17, Try.ntmps17
    go_wp2_with fail
    refine (call_in (HS.out _) hW h0).mono ?_
    rintro e w1 ⟨rfl, h1⟩
    clear h0
    obtain ⟨c0, c1, c4, c5, d0, d1⟩ := prB_cells h1
    go_wp2_with fail
    refine (call_in (HT.out _) hW h1).mono ?_
    rintro e w2 ⟨rfl, h2⟩
    clear h1 c0 c1 c4 c5 d0 d1
    obtain ⟨c0, c1, c4, c5, d0, d1⟩ := prB_cells h2
    go_wp2_with fail
    refine (call_in (HNF.out _) hW h2).mono ?_
    rintro e w3 ⟨rfl, h3⟩
    clear h2 c0 c1 c4 c5 d0 d1
    obtain ⟨c0, c1, c4, c5, d0, d1⟩ := prB_cells h3
    all_goals go_wp2_with fail
    refine (call_in (HNG.out _) hW h3).mono ?_
    rintro e w4 ⟨rfl, h4⟩
    clear h3 c0 c1 c4 c5 d0 d1
    obtain ⟨c0, c1, c4, c5, d0, d1⟩ := prB_cells h4
    cases ng <;> simp only [Bool.not_true, Bool.not_false] at eE
    all_goals go_wp2_with fail
    all_goals
      refine (call_in (HBL.out _) hW h4).mono ?_
      rintro e w5 ⟨rfl, h5⟩
      clear h4 c0 c1 c4 c5 d0 d1
      obtain ⟨c0, c1, c4, c5, d0, d1⟩ := prB_cells h5
      go_wp2_with fail
    all_goals
      go_ret
      exact ⟨by simp [*], prB_fin h5⟩
  · simp only [Bool.true_or, Bool.false_or, Bool.true_and, Bool.false_and, Bool.and_true, Bool.and_false, Bool.or_false, Bool.or_true, Bool.not_true, Bool.not_false] at eL eE
    go_enter Try.func17, Try.ntmps17
    go_wp2_with fail
    refine (call_in (HS.out _) hW h0).mono ?_
    rintro e w1 ⟨rfl, h1⟩
    clear h0
    obtain ⟨c0, c1, c4, c5, d0, d1⟩ := prB_cells h1
    go_wp2_with fail
    refine (call_in (HT.out _) hW h1).mono ?_
    rintro e w2 ⟨rfl, h2⟩
    clear h1 c0 c1 c4 c5 d0 d1
    obtain ⟨c0, c1, c4, c5, d0, d1⟩ := prB_cells h2
    go_wp2_with fail
    refine (call_in (HNF.out _) hW h2).mono ?_
    rintro e w3 ⟨rfl, h3⟩
    clear h2 c0 c1 c4 c5 d0 d1
    obtain ⟨c0, c1, c4, c5, d0, d1⟩ := prB_cells h3
    all_goals go_wp2_with fail
    refine (call_in (HBL.out _) hW h3).mono ?_
    rintro e w4 ⟨rfl, h4⟩
    clear h3 c0 c1 c4 c5 d0 d1
    obtain ⟨c0, c1, c4, c5, d0, d1⟩ := prB_cells h4
    all_goals go_wp2_with fail
    all_goals
      go_ret
      exact ⟨by simp [*], prB_fin h4⟩
  · simp only [Bool.true_or, Bool.false_or, Bool.true_and, Bool.false_and, Bool.and_true, Bool.and_false, Bool.or_false, Bool.or_true, Bool.not_true, Bool.not_false] at eL eE
    go_enter Try.func17, Try.ntmps17
    go_wp2_with fail
    refine (call_in (HS.out _) hW h0).mono ?_
    rintro e w1 ⟨rfl, h1⟩
    clear h0
    obtain ⟨c0, c1, c4, c5, d0, d1⟩ := prB_cells h1
    go_wp2_with fail
    refine (call_in (HT.out _) hW h1).mono ?_
    rintro e w2 ⟨rfl, h2⟩
    clear h1 c0 c1 c4 c5 d0 d1
    obtain ⟨c0, c1, c4, c5, d0, d1⟩ := prB_cells h2
    go_wp2_with fail
    refine (call_in (HBL.out _) hW h2).mono ?_
    rintro e w3 ⟨rfl, h3⟩
    clear h2 c0 c1 c4 c5 d0 d1
    obtain ⟨c0, c1, c4, c5, d0, d1⟩ := prB_cells h3
    all_goals go_wp2_with fail
    all_goals
      go_ret
      exact ⟨by simp [*], prB_fin h3⟩
  · simp only [Bool.true_or, Bool.false_or, Bool.true_and, Bool.false_and, Bool.and_true, Bool.and_false, Bool.or_false, Bool.or_true, Bool.not_true, Bool.not_false] at eL eE
    go_enter Try.func17, Try.ntmps17
    go_wp2_with fail
    refine (call_in (HS.out _) hW h0).mono ?_
    rintro e w1 ⟨rfl, h1⟩
    clear h0
    obtain ⟨c0, c1, c4, c5, d0, d1⟩ := prB_cells h1
    go_wp2_with fail
    refine (call_in (HT.out _) hW h1).mono ?_
    rintro e w2 ⟨rfl, h2⟩
    clear h1 c0 c1 c4 c5 d0 d1
    obtain ⟨c0, c1, c4, c5, d0, d1⟩ := prB_cells h2
    go_wp2_with fail
    refine (call_in (HBL.out _) hW h2).mono ?_
    rintro e w3 ⟨rfl, h3⟩
    clear h2 c0 c1 c4 c5 d0 d1
    obtain ⟨c0, c1, c4, c5, d0, d1⟩ := prB_cells h3
    all_goals go_wp2_with fail
    all_goals
      go_ret
      exact ⟨by simp [*], prB_fin h3⟩
  · simp only [Bool.true_or, Bool.false_or, Bool.true_and, Bool.false_and, Bool.and_true, Bool.and_false, Bool.or_false, Bool.or_true, Bool.not_true, Bool.not_false] at eL eE
    go_enter Try.func17, Try.ntmps17
    go_wp2_with fail
    refine (call_in (HS.out _) hW h0).mono ?_
    rintro e w1 ⟨rfl, h1⟩
    clear h0
    obtain ⟨c0, c1, c4, c5, d0, d1⟩ := prB_cells h1
    go_wp2_with fail
    refine (call_in (HT.out _) hW h1).mono ?_
    rintro e w2 ⟨rfl, h2⟩
    clear h1 c0 c1 c4 c5 d0 d1
    obtain ⟨c0, c1, c4, c5, d0, d1⟩ := prB_cells h2
    go_wp2_with fail
    refine (call_in (HNF.out _) hW h2).mono ?_
    rintro e w3 ⟨rfl, h3⟩
    clear h2 c0 c1 c4 c5 d0 d1
    obtain ⟨c0, c1, c4, c5, d0, d1⟩ := prB_cells h3
    all_goals go_wp2_with fail
    refine (call_in (HNG.out _) hW h3).mono ?_
    rintro e w4 ⟨rfl, h4⟩
    clear h3 c0 c1 c4 c5 d0 d1
    obtain ⟨c0, c1, c4, c5, d0, d1⟩ := prB_cells h4
    cases ng
    all_goals go_wp2_with fail
    all_goals
      go_ret
      exact ⟨by simp [*], prB_fin h4⟩
  · simp only [Bool.true_or, Bool.false_or, Bool.true_and, Bool.false_and, Bool.and_true, Bool.and_false, Bool.or_false, Bool.or_true, Bool.not_true, Bool.not_false] at eL eE
    go_enter Try.func17, Try.ntmps17
    go_wp2_with fail
    refine (call_in (HS.out _) hW h0).mono ?_
    rintro e w1 ⟨rfl, h1⟩
    clear h0
    obtain ⟨c0, c1, c4, c5, d0, d1⟩ := prB_cells h1
    go_wp2_with fail
    refine (call_in (HT.out _) hW h1).mono ?_
    rintro e w2 ⟨rfl, h2⟩
    clear h1 c0 c1 c4 c5 d0 d1
    obtain ⟨c0, c1, c4, c5, d0, d1⟩ := prB_cells h2
    go_wp2_with fail
    refine (call_in (HNF.out _) hW h2).mono ?_
    rintro e w3 ⟨rfl, h3⟩
    clear h2 c0 c1 c4 c5 d0 d1
    obtain ⟨c0, c1, c4, c5, d0, d1⟩ := prB_cells h3
    all_goals go_wp2_with fail
    all_goals
      go_ret
      exact ⟨by simp [*], prB_fin h3⟩
  · simp only [Bool.true_or, Bool.false_or, Bool.true_and, Bool.false_and, Bool.and_true, Bool.and_false, Bool.or_false, Bool.or_true, Bool.not_true, Bool.not_false] at eL eE
    go_enter Try.func17, Try.ntmps17
    go_wp2_with fail
    refine (call_in (HS.out _) hW h0).mono ?_
    rintro e w1 ⟨rfl, h1⟩
    clear h0
    obtain ⟨c0, c1, c4, c5, d0, d1⟩ := prB_cells h1
    go_wp2_with fail
    refine (call_in (HT.out _) hW h1).mono ?_
    rintro e w2 ⟨rfl, h2⟩
    clear h1 c0 c1 c4 c5 d0 d1
    obtain ⟨c0, c1, c4, c5, d0, d1⟩ := prB_cells h2
    go_wp2_with fail
    all_goals
      go_ret
      exact ⟨by simp [*], prB_fin h2⟩
  · simp only [Bool.true_or, Bool.false_or, Bool.true_and, Bool.false_and, Bool.and_true, Bool.and_false, Bool.or_false, Bool.or_true, Bool.not_true, Bool.not_false] at eL eE
    go_enter Try.func17, Try.ntmps17
    go_wp2_with fail
    refine (call_in (HS.out _) hW h0).mono ?_
    rintro e w1 ⟨rfl, h1⟩
    clear h0
    obtain ⟨c0, c1, c4, c5, d0, d1⟩ := prB_cells h1
    go_wp2_with fail
    refine (call_in (HT.out _) hW h1).mono ?_
    rintro e w2 ⟨rfl, h2⟩
    clear h1 c0 c1 c4 c5 d0 d1
    obtain ⟨c0, c1, c4, c5, d0, d1⟩ := prB_cells h2
    go_wp2_with fail
    all_goals
      go_ret
      exact ⟨by simp [*], prB_fin h2⟩
  · simp only [Bool.true_or, Bool.false_or, Bool.true_and, Bool.false_and, Bool.and_true, Bool.and_false, Bool.or_false, Bool.or_true, Bool.not_true, Bool.not_false] at eL eE
    go_enter Try.func17, Try.ntmps17
    go_wp2_with fail
    refine (call_in (HS.out _) hW h0).mono ?_
    rintro e w1 ⟨rfl, h1⟩
    clear h0
    obtain ⟨c0, c1, c4, c5, d0, d1⟩ := prB_cells h1
    go_wp2_with fail
    refine (call_in (HT.out _) hW h1).mono ?_
    rintro e w2 ⟨rfl, h2⟩
    clear h1 c0 c1 c4 c5 d0 d1
    obtain ⟨c0, c1, c4, c5, d0, d1⟩ := prB_cells h2
    go_wp2_with fail
    refine (call_in (HNF.out _) hW h2).mono ?_
    rintro e w3 ⟨rfl, h3⟩
    clear h2 c0 c1 c4 c5 d0 d1
    obtain ⟨c0, c1, c4, c5, d0, d1⟩ := prB_cells h3
    all_goals go_wp2_with fail
    refine (call_in (HNG.out _) hW h3).mono ?_
    rintro e w4 ⟨rfl, h4⟩
    clear h3 c0 c1 c4 c5 d0 d1
    obtain ⟨c0, c1, c4, c5, d0, d1⟩ := prB_cells h4
    cases ng <;> simp only [Bool.not_true, Bool.not_false] at eE
    all_goals go_wp2_with fail
    all_goals
      go_ret
      exact ⟨by simp [*], prB_fin h4⟩
  · simp only [Bool.true_or, Bool.false_or, Bool.true_and, Bool.false_and, Bool.and_true, Bool.and_false, Bool.or_false, Bool.or_true, Bool.not_true, Bool.not_false] at eL eE
    go_enter Try.func17, Try.ntmps17
    go_wp2_with fail
    refine (call_in (HS.out _) hW h0).mono ?_
    rintro e w1 ⟨rfl, h1⟩
    clear h0
    obtain ⟨c0, c1, c4, c5, d0, d1⟩ := prB_cells h1
    go_wp2_with fail
    refine (call_in (HT.out _) hW h1).mono ?_
    rintro e w2 ⟨rfl, h2⟩
    clear h1 c0 c1 c4 c5 d0 d1
    obtain ⟨c0, c1, c4, c5, d0, d1⟩ := prB_cells h2
    go_wp2_with fail
    refine (call_in (HNF.out _) hW h2).mono ?_
    rintro e w3 ⟨rfl, h3⟩
    clear h2 c0 c1 c4 c5 d0 d1
    obtain ⟨c0, c1, c4, c5, d0, d1⟩ := prB_cells h3
    all_goals go_wp2_with fail
    all_goals
      go_ret
      exact ⟨by simp [*], prB_fin h3⟩
  · simp only [Bool.true_or, Bool.false_or, Bool.true_and, Bool.false_and, Bool.and_true, Bool.and_false, Bool.or_false, Bool.or_true, Bool.not_true, Bool.not_false] at eL eE
    go_enter Try.func17, Try.ntmps17
    go_wp2_with fail
    refine (call_in (HS.out _) hW h0).mono ?_
    rintro e w1 ⟨rfl, h1⟩
    clear h0
    obtain ⟨c0, c1, c4, c5, d0, d1⟩ := prB_cells h1
    go_wp2_with fail
    refine (call_in (HT.out _) hW h1).mono ?_
    rintro e w2 ⟨rfl, h2⟩
    clear h1 c0 c1 c4 c5 d0 d1
    obtain ⟨c0, c1, c4, c5, d0, d1⟩ := prB_cells h2
    go_wp2_with fail
    all_goals
      go_ret
      exact ⟨by simp [*], prB_fin h2⟩
  · simp only [Bool.true_or, Bool.false_or, Bool.true_and, Bool.false_and, Bool.and_true, Bool.and_false, Bool.or_false, Bool.or_true, Bool.not_true, Bool.not_false] at eL eE
    go_enter Try.func17, Try.ntmps17
    go_wp2_with fail
    refine (call_in (HS.out _) hW h0).mono ?_
    rintro e w1 ⟨rfl, h1⟩
    clear h0
    obtain ⟨c0, c1, c4, c5, d0, d1⟩ := prB_cells h1
    go_wp2_with fail
    refine (call_in (HT.out _) hW h1).mono ?_
    rintro e w2 ⟨rfl, h2⟩
    clear h1 c0 c1 c4 c5 d0 d1
    obtain ⟨c0, c1, c4, c5, d0, d1⟩ := prB_cells h2
    go_wp2_with fail
    all_goals
      go_ret
      exact ⟨by simp [*], prB_fin h2⟩
end Go.Proofs.Ythbcnieekpjhcaa.Leaf
