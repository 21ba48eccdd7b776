/- TypedOrder's walk (function 5): written by mkorder.py. -/
import Derived.Test.YthbcnieekpjhcaaPairB
namespace Go.Proofs.Ythbcnieekpjhcaa.Leaf
open Go.RowKit Go.Proofs.YthbcnieekpjhcaaW.PrintWords Go.Proofs.YthbcnieekpjhcaaW.PrintLast Go.Proofs.YthbcnieekpjhcaaW.PrintMore Go.Proofs.Ythbcnieekpjhcaa.Fl
set_option linter.unusedVariables false
set_option linter.unusedSimpArgs false

theorem prA_fin {p : Pr} {w x : World} (h : Below (w.heap.size + 1) (w.alloc (prObj p)) x) : Below w.heap.size w x :=
  ((Below.refl w.heap.size w).alloc (Nat.le_refl _) _).trans (h.mono (by omega))

set_option maxRecDepth 100000 in
set_option maxHeartbeats 8000000 in
theorem order_run (p : Pr) (X Y U V F G B C : ByteArray) (li ei lu eu bl oe nf ng : Bool) (w : World)
    (hX : ∀ w, Calls Try.prog 9 #[.agg #[], .int .i64 p.i] w fun e w' => e = .returned (.tuple #[.string X, .bool true]) ∧ Below w.heap.size w w')
    (hY : ∀ w, Calls Try.prog 9 #[.agg #[], .int .i64 p.j] w fun e w' => e = .returned (.tuple #[.string Y, .bool true]) ∧ Below w.heap.size w w')
    (hU : ∀ w, Calls Try.prog 12 #[.agg #[], .int .u64 p.u] w fun e w' => e = .returned (.tuple #[.string U, .bool true]) ∧ Below w.heap.size w w')
    (hV : ∀ w, Calls Try.prog 12 #[.agg #[], .int .u64 p.v] w fun e w' => e = .returned (.tuple #[.string V, .bool true]) ∧ Below w.heap.size w w')
    (hF : ∀ w, Calls Try.prog 11 #[.agg #[], .float .f64 p.f] w fun e w' => e = .returned (.tuple #[.string F, .bool true]) ∧ Below w.heap.size w w')
    (hG : ∀ w, Calls Try.prog 11 #[.agg #[], .float .f64 p.g] w fun e w' => e = .returned (.tuple #[.string G, .bool true]) ∧ Below w.heap.size w w')
    (hB : ∀ w, Calls Try.prog 13 #[.agg #[], .bool p.b] w fun e w' => e = .returned (.tuple #[.string B, .bool true]) ∧ Below w.heap.size w w')
    (hC : ∀ w, Calls Try.prog 13 #[.agg #[], .bool p.c] w fun e w' => e = .returned (.tuple #[.string C, .bool true]) ∧ Below w.heap.size w w')
    (hbl : ∀ w, Calls Try.prog 14 #[.float .f64 p.f, .float .f64 p.g] w fun e w' => e = .returned (.bool bl) ∧ Below w.heap.size w w')
    (hnf : ∀ w, Calls Try.prog 15 #[.float .f64 p.f] w fun e w' => e = .returned (.bool nf) ∧ Below w.heap.size w w')
    (hng : ∀ w, Calls Try.prog 15 #[.float .f64 p.g] w fun e w' => e = .returned (.bool ng) ∧ Below w.heap.size w w')
    (htx : ∀ w, Calls Try.prog 16 #[prV p] w fun e w' => e = .returned (.bool true) ∧ Below w.heap.size w w')
    (htw : ∀ w, Calls Try.prog 17 #[prV p, .bool li, .bool ei] w fun e w' => e = .returned (.bool true) ∧ Below w.heap.size w w')
    (ho : (FloatKind.f64.format.order p.f p.g == some .eq) = oe)
    (x8 : (X.size : Int) = 8) (y8 : (Y.size : Int) = 8) (u8 : (U.size : Int) = 8) (v8 : (V.size : Int) = 8) (f8 : (F.size : Int) = 8) (g8 : (G.size : Int) = 8) (b1 : (B.size : Int) = 1) (k1 : (C.size : Int) = 1)
    (l1 : Op.bytesLess X.toList Y.toList = li) (l2 : decide (p.i < p.j) = li) (l3 : (X.toList == Y.toList) = ei) (l4 : (p.i == p.j) = ei)
    (m1 : Op.bytesLess U.toList V.toList = lu) (m2 : decide (p.u < p.v) = lu) (m3 : (U.toList == V.toList) = eu) (m4 : (p.u == p.v) = eu)
    (n1 : Op.bytesLess F.toList G.toList = bl) (n2 : (F.toList == G.toList) = (oe || (!nf && !ng)))
    (q1 : Op.bytesLess B.toList C.toList = (!p.b && p.c)) (q2 : (B.toList == C.toList) = (p.b == p.c)) :
    Calls Try.prog 5 #[prV p] w fun e w' => e = .returned (.bool true) ∧ Below w.heap.size w w' := by
  have h0 : Below (w.heap.size + 1) (w.alloc (prObj p)) (w.alloc (prObj p)) := Below.refl _ _
  have hW : w.heap.size + 1 ≤ (w.alloc (prObj p)).heap.size := by simp
  have H_X := Lib.hid hX
  have H_Y := Lib.hid hY
  have H_U := Lib.hid hU
  have H_V := Lib.hid hV
  have H_F := Lib.hid hF
  have H_G := Lib.hid hG
  have H_B := Lib.hid hB
  have H_C := Lib.hid hC
  have HBL := Lib.hid hbl
  have HNF := Lib.hid hnf
  have HNG := Lib.hid hng
  have HTX := Lib.hid htx
  have HTW := Lib.hid htw
  clear hX hY hU hV hF hG hB hC hbl hnf hng htx htw
  rcases p with ⟨i, j, u, v, f, g, b, c, s, t⟩
  simp only at *
  cases oe <;> cases nf <;> cases b
  · simp only [Bool.true_or, Bool.false_or, Bool.true_and, Bool.false_and, Bool.and_true, Bool.and_false, Bool.or_false, Bool.or_true, Bool.not_true, Bool.not_false] at n2 q1 q2
    go_enter Try.func5, Try.ntmps5
    go_wp2_with fail
    refine (call_in (H_X.out _) hW h0).mono ?_
    rintro e w1 ⟨rfl, h1⟩
    clear h0
    obtain ⟨c0, c1, c2, c3, c4, c5, c6, c7, c8, c9⟩ := pr_cells h1
    go_wp2_with fail
    refine (call_in (H_Y.out _) hW h1).mono ?_
    rintro e w2 ⟨rfl, h2⟩
    clear h1 c0 c1 c2 c3 c4 c5 c6 c7 c8 c9
    obtain ⟨c0, c1, c2, c3, c4, c5, c6, c7, c8, c9⟩ := pr_cells h2
    go_wp2_with fail
    refine (call_in (H_U.out _) hW h2).mono ?_
    rintro e w3 ⟨rfl, h3⟩
    clear h2 c0 c1 c2 c3 c4 c5 c6 c7 c8 c9
    obtain ⟨c0, c1, c2, c3, c4, c5, c6, c7, c8, c9⟩ := pr_cells h3
    go_wp2_with fail
    refine (call_in (H_V.out _) hW h3).mono ?_
    rintro e w4 ⟨rfl, h4⟩
    clear h3 c0 c1 c2 c3 c4 c5 c6 c7 c8 c9
    obtain ⟨c0, c1, c2, c3, c4, c5, c6, c7, c8, c9⟩ := pr_cells h4
    go_wp2_with fail
    refine (call_in (H_F.out _) hW h4).mono ?_
    rintro e w5 ⟨rfl, h5⟩
    clear h4 c0 c1 c2 c3 c4 c5 c6 c7 c8 c9
    obtain ⟨c0, c1, c2, c3, c4, c5, c6, c7, c8, c9⟩ := pr_cells h5
    go_wp2_with fail
    refine (call_in (H_G.out _) hW h5).mono ?_
    rintro e w6 ⟨rfl, h6⟩
    clear h5 c0 c1 c2 c3 c4 c5 c6 c7 c8 c9
    obtain ⟨c0, c1, c2, c3, c4, c5, c6, c7, c8, c9⟩ := pr_cells h6
    go_wp2_with fail
    refine (call_in (H_B.out _) hW h6).mono ?_
    rintro e w7 ⟨rfl, h7⟩
    clear h6 c0 c1 c2 c3 c4 c5 c6 c7 c8 c9
    obtain ⟨c0, c1, c2, c3, c4, c5, c6, c7, c8, c9⟩ := pr_cells h7
    go_wp2_with fail
    refine (call_in (H_C.out _) hW h7).mono ?_
    rintro e w8 ⟨rfl, h8⟩
    clear h7 c0 c1 c2 c3 c4 c5 c6 c7 c8 c9
    obtain ⟨c0, c1, c2, c3, c4, c5, c6, c7, c8, c9⟩ := pr_cells h8
    go_wp2_with fail
    refine (call_in (HBL.out _) hW h8).mono ?_
    rintro e w9 ⟨rfl, h9⟩
    clear h8 c0 c1 c2 c3 c4 c5 c6 c7 c8 c9
    obtain ⟨c0, c1, c2, c3, c4, c5, c6, c7, c8, c9⟩ := pr_cells h9
    go_wp2_with fail
    refine (call_in (HNF.out _) hW h9).mono ?_
    rintro e w10 ⟨rfl, h10⟩
    clear h9 c0 c1 c2 c3 c4 c5 c6 c7 c8 c9
    obtain ⟨c0, c1, c2, c3, c4, c5, c6, c7, c8, c9⟩ := pr_cells h10
    go_wp2_with fail
    refine (call_in (HNG.out _) hW h10).mono ?_
    rintro e w11 ⟨rfl, h11⟩
    clear h10 c0 c1 c2 c3 c4 c5 c6 c7 c8 c9
    obtain ⟨c0, c1, c2, c3, c4, c5, c6, c7, c8, c9⟩ := pr_cells h11
    go_wp2_with fail
    refine (call_in (HTX.out _) hW h11).mono ?_
    rintro e w12 ⟨rfl, h12⟩
    clear h11 c0 c1 c2 c3 c4 c5 c6 c7 c8 c9
    obtain ⟨c0, c1, c2, c3, c4, c5, c6, c7, c8, c9⟩ := pr_cells h12
    go_wp2_with fail
    refine (call_in (HTW.out _) hW h12).mono ?_
    rintro e w13 ⟨rfl, h13⟩
    clear h12 c0 c1 c2 c3 c4 c5 c6 c7 c8 c9
    obtain ⟨c0, c1, c2, c3, c4, c5, c6, c7, c8, c9⟩ := pr_cells h13
    go_wp2_with fail
    go_ret
    exact ⟨rfl, prA_fin h13⟩
  · simp only [Bool.true_or, Bool.false_or, Bool.true_and, Bool.false_and, Bool.and_true, Bool.and_false, Bool.or_false, Bool.or_true, Bool.not_true, Bool.not_false] at n2 q1 q2
    go_enter Try.func5, Try.ntmps5
    go_wp2_with fail
    refine (call_in (H_X.out _) hW h0).mono ?_
    rintro e w1 ⟨rfl, h1⟩
    clear h0
    obtain ⟨c0, c1, c2, c3, c4, c5, c6, c7, c8, c9⟩ := pr_cells h1
    go_wp2_with fail
    refine (call_in (H_Y.out _) hW h1).mono ?_
    rintro e w2 ⟨rfl, h2⟩
    clear h1 c0 c1 c2 c3 c4 c5 c6 c7 c8 c9
    obtain ⟨c0, c1, c2, c3, c4, c5, c6, c7, c8, c9⟩ := pr_cells h2
    go_wp2_with fail
    refine (call_in (H_U.out _) hW h2).mono ?_
    rintro e w3 ⟨rfl, h3⟩
    clear h2 c0 c1 c2 c3 c4 c5 c6 c7 c8 c9
    obtain ⟨c0, c1, c2, c3, c4, c5, c6, c7, c8, c9⟩ := pr_cells h3
    go_wp2_with fail
    refine (call_in (H_V.out _) hW h3).mono ?_
    rintro e w4 ⟨rfl, h4⟩
    clear h3 c0 c1 c2 c3 c4 c5 c6 c7 c8 c9
    obtain ⟨c0, c1, c2, c3, c4, c5, c6, c7, c8, c9⟩ := pr_cells h4
    go_wp2_with fail
    refine (call_in (H_F.out _) hW h4).mono ?_
    rintro e w5 ⟨rfl, h5⟩
    clear h4 c0 c1 c2 c3 c4 c5 c6 c7 c8 c9
    obtain ⟨c0, c1, c2, c3, c4, c5, c6, c7, c8, c9⟩ := pr_cells h5
    go_wp2_with fail
    refine (call_in (H_G.out _) hW h5).mono ?_
    rintro e w6 ⟨rfl, h6⟩
    clear h5 c0 c1 c2 c3 c4 c5 c6 c7 c8 c9
    obtain ⟨c0, c1, c2, c3, c4, c5, c6, c7, c8, c9⟩ := pr_cells h6
    go_wp2_with fail
    refine (call_in (H_B.out _) hW h6).mono ?_
    rintro e w7 ⟨rfl, h7⟩
    clear h6 c0 c1 c2 c3 c4 c5 c6 c7 c8 c9
    obtain ⟨c0, c1, c2, c3, c4, c5, c6, c7, c8, c9⟩ := pr_cells h7
    go_wp2_with fail
    refine (call_in (H_C.out _) hW h7).mono ?_
    rintro e w8 ⟨rfl, h8⟩
    clear h7 c0 c1 c2 c3 c4 c5 c6 c7 c8 c9
    obtain ⟨c0, c1, c2, c3, c4, c5, c6, c7, c8, c9⟩ := pr_cells h8
    go_wp2_with fail
    refine (call_in (HBL.out _) hW h8).mono ?_
    rintro e w9 ⟨rfl, h9⟩
    clear h8 c0 c1 c2 c3 c4 c5 c6 c7 c8 c9
    obtain ⟨c0, c1, c2, c3, c4, c5, c6, c7, c8, c9⟩ := pr_cells h9
    go_wp2_with fail
    refine (call_in (HNF.out _) hW h9).mono ?_
    rintro e w10 ⟨rfl, h10⟩
    clear h9 c0 c1 c2 c3 c4 c5 c6 c7 c8 c9
    obtain ⟨c0, c1, c2, c3, c4, c5, c6, c7, c8, c9⟩ := pr_cells h10
    go_wp2_with fail
    refine (call_in (HNG.out _) hW h10).mono ?_
    rintro e w11 ⟨rfl, h11⟩
    clear h10 c0 c1 c2 c3 c4 c5 c6 c7 c8 c9
    obtain ⟨c0, c1, c2, c3, c4, c5, c6, c7, c8, c9⟩ := pr_cells h11
    go_wp2_with fail
    refine (call_in (HTX.out _) hW h11).mono ?_
    rintro e w12 ⟨rfl, h12⟩
    clear h11 c0 c1 c2 c3 c4 c5 c6 c7 c8 c9
    obtain ⟨c0, c1, c2, c3, c4, c5, c6, c7, c8, c9⟩ := pr_cells h12
    go_wp2_with fail
    refine (call_in (HTW.out _) hW h12).mono ?_
    rintro e w13 ⟨rfl, h13⟩
    clear h12 c0 c1 c2 c3 c4 c5 c6 c7 c8 c9
    obtain ⟨c0, c1, c2, c3, c4, c5, c6, c7, c8, c9⟩ := pr_cells h13
    go_wp2_with fail
    go_ret
    exact ⟨rfl, prA_fin h13⟩
  · simp only [Bool.true_or, Bool.false_or, Bool.true_and, Bool.false_and, Bool.and_true, Bool.and_false, Bool.or_false, Bool.or_true, Bool.not_true, Bool.not_false] at n2 q1 q2
    go_enter Try.func5, Try.ntmps5
    go_wp2_with fail
    refine (call_in (H_X.out _) hW h0).mono ?_
    rintro e w1 ⟨rfl, h1⟩
    clear h0
    obtain ⟨c0, c1, c2, c3, c4, c5, c6, c7, c8, c9⟩ := pr_cells h1
    go_wp2_with fail
    refine (call_in (H_Y.out _) hW h1).mono ?_
    rintro e w2 ⟨rfl, h2⟩
    clear h1 c0 c1 c2 c3 c4 c5 c6 c7 c8 c9
    obtain ⟨c0, c1, c2, c3, c4, c5, c6, c7, c8, c9⟩ := pr_cells h2
    go_wp2_with fail
    refine (call_in (H_U.out _) hW h2).mono ?_
    rintro e w3 ⟨rfl, h3⟩
    clear h2 c0 c1 c2 c3 c4 c5 c6 c7 c8 c9
    obtain ⟨c0, c1, c2, c3, c4, c5, c6, c7, c8, c9⟩ := pr_cells h3
    go_wp2_with fail
    refine (call_in (H_V.out _) hW h3).mono ?_
    rintro e w4 ⟨rfl, h4⟩
    clear h3 c0 c1 c2 c3 c4 c5 c6 c7 c8 c9
    obtain ⟨c0, c1, c2, c3, c4, c5, c6, c7, c8, c9⟩ := pr_cells h4
    go_wp2_with fail
    refine (call_in (H_F.out _) hW h4).mono ?_
    rintro e w5 ⟨rfl, h5⟩
    clear h4 c0 c1 c2 c3 c4 c5 c6 c7 c8 c9
    obtain ⟨c0, c1, c2, c3, c4, c5, c6, c7, c8, c9⟩ := pr_cells h5
    go_wp2_with fail
    refine (call_in (H_G.out _) hW h5).mono ?_
    rintro e w6 ⟨rfl, h6⟩
    clear h5 c0 c1 c2 c3 c4 c5 c6 c7 c8 c9
    obtain ⟨c0, c1, c2, c3, c4, c5, c6, c7, c8, c9⟩ := pr_cells h6
    go_wp2_with fail
    refine (call_in (H_B.out _) hW h6).mono ?_
    rintro e w7 ⟨rfl, h7⟩
    clear h6 c0 c1 c2 c3 c4 c5 c6 c7 c8 c9
    obtain ⟨c0, c1, c2, c3, c4, c5, c6, c7, c8, c9⟩ := pr_cells h7
    go_wp2_with fail
    refine (call_in (H_C.out _) hW h7).mono ?_
    rintro e w8 ⟨rfl, h8⟩
    clear h7 c0 c1 c2 c3 c4 c5 c6 c7 c8 c9
    obtain ⟨c0, c1, c2, c3, c4, c5, c6, c7, c8, c9⟩ := pr_cells h8
    go_wp2_with fail
    refine (call_in (HBL.out _) hW h8).mono ?_
    rintro e w9 ⟨rfl, h9⟩
    clear h8 c0 c1 c2 c3 c4 c5 c6 c7 c8 c9
    obtain ⟨c0, c1, c2, c3, c4, c5, c6, c7, c8, c9⟩ := pr_cells h9
    go_wp2_with fail
    refine (call_in (HNF.out _) hW h9).mono ?_
    rintro e w10 ⟨rfl, h10⟩
    clear h9 c0 c1 c2 c3 c4 c5 c6 c7 c8 c9
    obtain ⟨c0, c1, c2, c3, c4, c5, c6, c7, c8, c9⟩ := pr_cells h10
    go_wp2_with fail
    refine (call_in (HTX.out _) hW h10).mono ?_
    rintro e w11 ⟨rfl, h11⟩
    clear h10 c0 c1 c2 c3 c4 c5 c6 c7 c8 c9
    obtain ⟨c0, c1, c2, c3, c4, c5, c6, c7, c8, c9⟩ := pr_cells h11
    go_wp2_with fail
    refine (call_in (HTW.out _) hW h11).mono ?_
    rintro e w12 ⟨rfl, h12⟩
    clear h11 c0 c1 c2 c3 c4 c5 c6 c7 c8 c9
    obtain ⟨c0, c1, c2, c3, c4, c5, c6, c7, c8, c9⟩ := pr_cells h12
    go_wp2_with fail
    go_ret
    exact ⟨rfl, prA_fin h12⟩
  · simp only [Bool.true_or, Bool.false_or, Bool.true_and, Bool.false_and, Bool.and_true, Bool.and_false, Bool.or_false, Bool.or_true, Bool.not_true, Bool.not_false] at n2 q1 q2
    go_enter Try.func5, Try.ntmps5
    go_wp2_with fail
    refine (call_in (H_X.out _) hW h0).mono ?_
    rintro e w1 ⟨rfl, h1⟩
    clear h0
    obtain ⟨c0, c1, c2, c3, c4, c5, c6, c7, c8, c9⟩ := pr_cells h1
    go_wp2_with fail
    refine (call_in (H_Y.out _) hW h1).mono ?_
    rintro e w2 ⟨rfl, h2⟩
    clear h1 c0 c1 c2 c3 c4 c5 c6 c7 c8 c9
    obtain ⟨c0, c1, c2, c3, c4, c5, c6, c7, c8, c9⟩ := pr_cells h2
    go_wp2_with fail
    refine (call_in (H_U.out _) hW h2).mono ?_
    rintro e w3 ⟨rfl, h3⟩
    clear h2 c0 c1 c2 c3 c4 c5 c6 c7 c8 c9
    obtain ⟨c0, c1, c2, c3, c4, c5, c6, c7, c8, c9⟩ := pr_cells h3
    go_wp2_with fail
    refine (call_in (H_V.out _) hW h3).mono ?_
    rintro e w4 ⟨rfl, h4⟩
    clear h3 c0 c1 c2 c3 c4 c5 c6 c7 c8 c9
    obtain ⟨c0, c1, c2, c3, c4, c5, c6, c7, c8, c9⟩ := pr_cells h4
    go_wp2_with fail
    refine (call_in (H_F.out _) hW h4).mono ?_
    rintro e w5 ⟨rfl, h5⟩
    clear h4 c0 c1 c2 c3 c4 c5 c6 c7 c8 c9
    obtain ⟨c0, c1, c2, c3, c4, c5, c6, c7, c8, c9⟩ := pr_cells h5
    go_wp2_with fail
    refine (call_in (H_G.out _) hW h5).mono ?_
    rintro e w6 ⟨rfl, h6⟩
    clear h5 c0 c1 c2 c3 c4 c5 c6 c7 c8 c9
    obtain ⟨c0, c1, c2, c3, c4, c5, c6, c7, c8, c9⟩ := pr_cells h6
    go_wp2_with fail
    refine (call_in (H_B.out _) hW h6).mono ?_
    rintro e w7 ⟨rfl, h7⟩
    clear h6 c0 c1 c2 c3 c4 c5 c6 c7 c8 c9
    obtain ⟨c0, c1, c2, c3, c4, c5, c6, c7, c8, c9⟩ := pr_cells h7
    go_wp2_with fail
    refine (call_in (H_C.out _) hW h7).mono ?_
    rintro e w8 ⟨rfl, h8⟩
    clear h7 c0 c1 c2 c3 c4 c5 c6 c7 c8 c9
    obtain ⟨c0, c1, c2, c3, c4, c5, c6, c7, c8, c9⟩ := pr_cells h8
    go_wp2_with fail
    refine (call_in (HBL.out _) hW h8).mono ?_
    rintro e w9 ⟨rfl, h9⟩
    clear h8 c0 c1 c2 c3 c4 c5 c6 c7 c8 c9
    obtain ⟨c0, c1, c2, c3, c4, c5, c6, c7, c8, c9⟩ := pr_cells h9
    go_wp2_with fail
    refine (call_in (HNF.out _) hW h9).mono ?_
    rintro e w10 ⟨rfl, h10⟩
    clear h9 c0 c1 c2 c3 c4 c5 c6 c7 c8 c9
    obtain ⟨c0, c1, c2, c3, c4, c5, c6, c7, c8, c9⟩ := pr_cells h10
    go_wp2_with fail
    refine (call_in (HTX.out _) hW h10).mono ?_
    rintro e w11 ⟨rfl, h11⟩
    clear h10 c0 c1 c2 c3 c4 c5 c6 c7 c8 c9
    obtain ⟨c0, c1, c2, c3, c4, c5, c6, c7, c8, c9⟩ := pr_cells h11
    go_wp2_with fail
    refine (call_in (HTW.out _) hW h11).mono ?_
    rintro e w12 ⟨rfl, h12⟩
    clear h11 c0 c1 c2 c3 c4 c5 c6 c7 c8 c9
    obtain ⟨c0, c1, c2, c3, c4, c5, c6, c7, c8, c9⟩ := pr_cells h12
    go_wp2_with fail
    go_ret
    exact ⟨rfl, prA_fin h12⟩
  · simp only [Bool.true_or, Bool.false_or, Bool.true_and, Bool.false_and, Bool.and_true, Bool.and_false, Bool.or_false, Bool.or_true, Bool.not_true, Bool.not_false] at n2 q1 q2
    go_enter Try.func5, Try.ntmps5
    go_wp2_with fail
    refine (call_in (H_X.out _) hW h0).mono ?_
    rintro e w1 ⟨rfl, h1⟩
    clear h0
    obtain ⟨c0, c1, c2, c3, c4, c5, c6, c7, c8, c9⟩ := pr_cells h1
    go_wp2_with fail
    refine (call_in (H_Y.out _) hW h1).mono ?_
    rintro e w2 ⟨rfl, h2⟩
    clear h1 c0 c1 c2 c3 c4 c5 c6 c7 c8 c9
    obtain ⟨c0, c1, c2, c3, c4, c5, c6, c7, c8, c9⟩ := pr_cells h2
    go_wp2_with fail
    refine (call_in (H_U.out _) hW h2).mono ?_
    rintro e w3 ⟨rfl, h3⟩
    clear h2 c0 c1 c2 c3 c4 c5 c6 c7 c8 c9
    obtain ⟨c0, c1, c2, c3, c4, c5, c6, c7, c8, c9⟩ := pr_cells h3
    go_wp2_with fail
    refine (call_in (H_V.out _) hW h3).mono ?_
    rintro e w4 ⟨rfl, h4⟩
    clear h3 c0 c1 c2 c3 c4 c5 c6 c7 c8 c9
    obtain ⟨c0, c1, c2, c3, c4, c5, c6, c7, c8, c9⟩ := pr_cells h4
    go_wp2_with fail
    refine (call_in (H_F.out _) hW h4).mono ?_
    rintro e w5 ⟨rfl, h5⟩
    clear h4 c0 c1 c2 c3 c4 c5 c6 c7 c8 c9
    obtain ⟨c0, c1, c2, c3, c4, c5, c6, c7, c8, c9⟩ := pr_cells h5
    go_wp2_with fail
    refine (call_in (H_G.out _) hW h5).mono ?_
    rintro e w6 ⟨rfl, h6⟩
    clear h5 c0 c1 c2 c3 c4 c5 c6 c7 c8 c9
    obtain ⟨c0, c1, c2, c3, c4, c5, c6, c7, c8, c9⟩ := pr_cells h6
    go_wp2_with fail
    refine (call_in (H_B.out _) hW h6).mono ?_
    rintro e w7 ⟨rfl, h7⟩
    clear h6 c0 c1 c2 c3 c4 c5 c6 c7 c8 c9
    obtain ⟨c0, c1, c2, c3, c4, c5, c6, c7, c8, c9⟩ := pr_cells h7
    go_wp2_with fail
    refine (call_in (H_C.out _) hW h7).mono ?_
    rintro e w8 ⟨rfl, h8⟩
    clear h7 c0 c1 c2 c3 c4 c5 c6 c7 c8 c9
    obtain ⟨c0, c1, c2, c3, c4, c5, c6, c7, c8, c9⟩ := pr_cells h8
    go_wp2_with fail
    refine (call_in (HBL.out _) hW h8).mono ?_
    rintro e w9 ⟨rfl, h9⟩
    clear h8 c0 c1 c2 c3 c4 c5 c6 c7 c8 c9
    obtain ⟨c0, c1, c2, c3, c4, c5, c6, c7, c8, c9⟩ := pr_cells h9
    go_wp2_with fail
    refine (call_in (HTX.out _) hW h9).mono ?_
    rintro e w10 ⟨rfl, h10⟩
    clear h9 c0 c1 c2 c3 c4 c5 c6 c7 c8 c9
    obtain ⟨c0, c1, c2, c3, c4, c5, c6, c7, c8, c9⟩ := pr_cells h10
    go_wp2_with fail
    refine (call_in (HTW.out _) hW h10).mono ?_
    rintro e w11 ⟨rfl, h11⟩
    clear h10 c0 c1 c2 c3 c4 c5 c6 c7 c8 c9
    obtain ⟨c0, c1, c2, c3, c4, c5, c6, c7, c8, c9⟩ := pr_cells h11
    go_wp2_with fail
    go_ret
    exact ⟨rfl, prA_fin h11⟩
  · simp only [Bool.true_or, Bool.false_or, Bool.true_and, Bool.false_and, Bool.and_true, Bool.and_false, Bool.or_false, Bool.or_true, Bool.not_true, Bool.not_false] at n2 q1 q2
    go_enter Try.func5, Try.ntmps5
    go_wp2_with fail
    refine (call_in (H_X.out _) hW h0).mono ?_
    rintro e w1 ⟨rfl, h1⟩
    clear h0
    obtain ⟨c0, c1, c2, c3, c4, c5, c6, c7, c8, c9⟩ := pr_cells h1
    go_wp2_with fail
    refine (call_in (H_Y.out _) hW h1).mono ?_
    rintro e w2 ⟨rfl, h2⟩
    clear h1 c0 c1 c2 c3 c4 c5 c6 c7 c8 c9
    obtain ⟨c0, c1, c2, c3, c4, c5, c6, c7, c8, c9⟩ := pr_cells h2
    go_wp2_with fail
    refine (call_in (H_U.out _) hW h2).mono ?_
    rintro e w3 ⟨rfl, h3⟩
    clear h2 c0 c1 c2 c3 c4 c5 c6 c7 c8 c9
    obtain ⟨c0, c1, c2, c3, c4, c5, c6, c7, c8, c9⟩ := pr_cells h3
    go_wp2_with fail
    refine (call_in (H_V.out _) hW h3).mono ?_
    rintro e w4 ⟨rfl, h4⟩
    clear h3 c0 c1 c2 c3 c4 c5 c6 c7 c8 c9
    obtain ⟨c0, c1, c2, c3, c4, c5, c6, c7, c8, c9⟩ := pr_cells h4
    go_wp2_with fail
    refine (call_in (H_F.out _) hW h4).mono ?_
    rintro e w5 ⟨rfl, h5⟩
    clear h4 c0 c1 c2 c3 c4 c5 c6 c7 c8 c9
    obtain ⟨c0, c1, c2, c3, c4, c5, c6, c7, c8, c9⟩ := pr_cells h5
    go_wp2_with fail
    refine (call_in (H_G.out _) hW h5).mono ?_
    rintro e w6 ⟨rfl, h6⟩
    clear h5 c0 c1 c2 c3 c4 c5 c6 c7 c8 c9
    obtain ⟨c0, c1, c2, c3, c4, c5, c6, c7, c8, c9⟩ := pr_cells h6
    go_wp2_with fail
    refine (call_in (H_B.out _) hW h6).mono ?_
    rintro e w7 ⟨rfl, h7⟩
    clear h6 c0 c1 c2 c3 c4 c5 c6 c7 c8 c9
    obtain ⟨c0, c1, c2, c3, c4, c5, c6, c7, c8, c9⟩ := pr_cells h7
    go_wp2_with fail
    refine (call_in (H_C.out _) hW h7).mono ?_
    rintro e w8 ⟨rfl, h8⟩
    clear h7 c0 c1 c2 c3 c4 c5 c6 c7 c8 c9
    obtain ⟨c0, c1, c2, c3, c4, c5, c6, c7, c8, c9⟩ := pr_cells h8
    go_wp2_with fail
    refine (call_in (HBL.out _) hW h8).mono ?_
    rintro e w9 ⟨rfl, h9⟩
    clear h8 c0 c1 c2 c3 c4 c5 c6 c7 c8 c9
    obtain ⟨c0, c1, c2, c3, c4, c5, c6, c7, c8, c9⟩ := pr_cells h9
    go_wp2_with fail
    refine (call_in (HTX.out _) hW h9).mono ?_
    rintro e w10 ⟨rfl, h10⟩
    clear h9 c0 c1 c2 c3 c4 c5 c6 c7 c8 c9
    obtain ⟨c0, c1, c2, c3, c4, c5, c6, c7, c8, c9⟩ := pr_cells h10
    go_wp2_with fail
    refine (call_in (HTW.out _) hW h10).mono ?_
    rintro e w11 ⟨rfl, h11⟩
    clear h10 c0 c1 c2 c3 c4 c5 c6 c7 c8 c9
    obtain ⟨c0, c1, c2, c3, c4, c5, c6, c7, c8, c9⟩ := pr_cells h11
    go_wp2_with fail
    go_ret
    exact ⟨rfl, prA_fin h11⟩
  · simp only [Bool.true_or, Bool.false_or, Bool.true_and, Bool.false_and, Bool.and_true, Bool.and_false, Bool.or_false, Bool.or_true, Bool.not_true, Bool.not_false] at n2 q1 q2
    go_enter Try.func5, Try.ntmps5
    go_wp2_with fail
    refine (call_in (H_X.out _) hW h0).mono ?_
    rintro e w1 ⟨rfl, h1⟩
    clear h0
    obtain ⟨c0, c1, c2, c3, c4, c5, c6, c7, c8, c9⟩ := pr_cells h1
    go_wp2_with fail
    refine (call_in (H_Y.out _) hW h1).mono ?_
    rintro e w2 ⟨rfl, h2⟩
    clear h1 c0 c1 c2 c3 c4 c5 c6 c7 c8 c9
    obtain ⟨c0, c1, c2, c3, c4, c5, c6, c7, c8, c9⟩ := pr_cells h2
    go_wp2_with fail
    refine (call_in (H_U.out _) hW h2).mono ?_
    rintro e w3 ⟨rfl, h3⟩
    clear h2 c0 c1 c2 c3 c4 c5 c6 c7 c8 c9
    obtain ⟨c0, c1, c2, c3, c4, c5, c6, c7, c8, c9⟩ := pr_cells h3
    go_wp2_with fail
    refine (call_in (H_V.out _) hW h3).mono ?_
    rintro e w4 ⟨rfl, h4⟩
    clear h3 c0 c1 c2 c3 c4 c5 c6 c7 c8 c9
    obtain ⟨c0, c1, c2, c3, c4, c5, c6, c7, c8, c9⟩ := pr_cells h4
    go_wp2_with fail
    refine (call_in (H_F.out _) hW h4).mono ?_
    rintro e w5 ⟨rfl, h5⟩
    clear h4 c0 c1 c2 c3 c4 c5 c6 c7 c8 c9
    obtain ⟨c0, c1, c2, c3, c4, c5, c6, c7, c8, c9⟩ := pr_cells h5
    go_wp2_with fail
    refine (call_in (H_G.out _) hW h5).mono ?_
    rintro e w6 ⟨rfl, h6⟩
    clear h5 c0 c1 c2 c3 c4 c5 c6 c7 c8 c9
    obtain ⟨c0, c1, c2, c3, c4, c5, c6, c7, c8, c9⟩ := pr_cells h6
    go_wp2_with fail
    refine (call_in (H_B.out _) hW h6).mono ?_
    rintro e w7 ⟨rfl, h7⟩
    clear h6 c0 c1 c2 c3 c4 c5 c6 c7 c8 c9
    obtain ⟨c0, c1, c2, c3, c4, c5, c6, c7, c8, c9⟩ := pr_cells h7
    go_wp2_with fail
    refine (call_in (H_C.out _) hW h7).mono ?_
    rintro e w8 ⟨rfl, h8⟩
    clear h7 c0 c1 c2 c3 c4 c5 c6 c7 c8 c9
    obtain ⟨c0, c1, c2, c3, c4, c5, c6, c7, c8, c9⟩ := pr_cells h8
    go_wp2_with fail
    refine (call_in (HBL.out _) hW h8).mono ?_
    rintro e w9 ⟨rfl, h9⟩
    clear h8 c0 c1 c2 c3 c4 c5 c6 c7 c8 c9
    obtain ⟨c0, c1, c2, c3, c4, c5, c6, c7, c8, c9⟩ := pr_cells h9
    go_wp2_with fail
    refine (call_in (HTX.out _) hW h9).mono ?_
    rintro e w10 ⟨rfl, h10⟩
    clear h9 c0 c1 c2 c3 c4 c5 c6 c7 c8 c9
    obtain ⟨c0, c1, c2, c3, c4, c5, c6, c7, c8, c9⟩ := pr_cells h10
    go_wp2_with fail
    refine (call_in (HTW.out _) hW h10).mono ?_
    rintro e w11 ⟨rfl, h11⟩
    clear h10 c0 c1 c2 c3 c4 c5 c6 c7 c8 c9
    obtain ⟨c0, c1, c2, c3, c4, c5, c6, c7, c8, c9⟩ := pr_cells h11
    go_wp2_with fail
    go_ret
    exact ⟨rfl, prA_fin h11⟩
  · simp only [Bool.true_or, Bool.false_or, Bool.true_and, Bool.false_and, Bool.and_true, Bool.and_false, Bool.or_false, Bool.or_true, Bool.not_true, Bool.not_false] at n2 q1 q2
    go_enter Try.func5, Try.ntmps5
    go_wp2_with fail
    refine (call_in (H_X.out _) hW h0).mono ?_
    rintro e w1 ⟨rfl, h1⟩
    clear h0
    obtain ⟨c0, c1, c2, c3, c4, c5, c6, c7, c8, c9⟩ := pr_cells h1
    go_wp2_with fail
    refine (call_in (H_Y.out _) hW h1).mono ?_
    rintro e w2 ⟨rfl, h2⟩
    clear h1 c0 c1 c2 c3 c4 c5 c6 c7 c8 c9
    obtain ⟨c0, c1, c2, c3, c4, c5, c6, c7, c8, c9⟩ := pr_cells h2
    go_wp2_with fail
    refine (call_in (H_U.out _) hW h2).mono ?_
    rintro e w3 ⟨rfl, h3⟩
    clear h2 c0 c1 c2 c3 c4 c5 c6 c7 c8 c9
    obtain ⟨c0, c1, c2, c3, c4, c5, c6, c7, c8, c9⟩ := pr_cells h3
    go_wp2_with fail
    refine (call_in (H_V.out _) hW h3).mono ?_
    rintro e w4 ⟨rfl, h4⟩
    clear h3 c0 c1 c2 c3 c4 c5 c6 c7 c8 c9
    obtain ⟨c0, c1, c2, c3, c4, c5, c6, c7, c8, c9⟩ := pr_cells h4
    go_wp2_with fail
    refine (call_in (H_F.out _) hW h4).mono ?_
    rintro e w5 ⟨rfl, h5⟩
    clear h4 c0 c1 c2 c3 c4 c5 c6 c7 c8 c9
    obtain ⟨c0, c1, c2, c3, c4, c5, c6, c7, c8, c9⟩ := pr_cells h5
    go_wp2_with fail
    refine (call_in (H_G.out _) hW h5).mono ?_
    rintro e w6 ⟨rfl, h6⟩
    clear h5 c0 c1 c2 c3 c4 c5 c6 c7 c8 c9
    obtain ⟨c0, c1, c2, c3, c4, c5, c6, c7, c8, c9⟩ := pr_cells h6
    go_wp2_with fail
    refine (call_in (H_B.out _) hW h6).mono ?_
    rintro e w7 ⟨rfl, h7⟩
    clear h6 c0 c1 c2 c3 c4 c5 c6 c7 c8 c9
    obtain ⟨c0, c1, c2, c3, c4, c5, c6, c7, c8, c9⟩ := pr_cells h7
    go_wp2_with fail
    refine (call_in (H_C.out _) hW h7).mono ?_
    rintro e w8 ⟨rfl, h8⟩
    clear h7 c0 c1 c2 c3 c4 c5 c6 c7 c8 c9
    obtain ⟨c0, c1, c2, c3, c4, c5, c6, c7, c8, c9⟩ := pr_cells h8
    go_wp2_with fail
    refine (call_in (HBL.out _) hW h8).mono ?_
    rintro e w9 ⟨rfl, h9⟩
    clear h8 c0 c1 c2 c3 c4 c5 c6 c7 c8 c9
    obtain ⟨c0, c1, c2, c3, c4, c5, c6, c7, c8, c9⟩ := pr_cells h9
    go_wp2_with fail
    refine (call_in (HTX.out _) hW h9).mono ?_
    rintro e w10 ⟨rfl, h10⟩
    clear h9 c0 c1 c2 c3 c4 c5 c6 c7 c8 c9
    obtain ⟨c0, c1, c2, c3, c4, c5, c6, c7, c8, c9⟩ := pr_cells h10
    go_wp2_with fail
    refine (call_in (HTW.out _) hW h10).mono ?_
    rintro e w11 ⟨rfl, h11⟩
    clear h10 c0 c1 c2 c3 c4 c5 c6 c7 c8 c9
    obtain ⟨c0, c1, c2, c3, c4, c5, c6, c7, c8, c9⟩ := pr_cells h11
    go_wp2_with fail
    go_ret
    exact ⟨rfl, prA_fin h11⟩
end Go.Proofs.Ythbcnieekpjhcaa.Leaf
