/- TypedRound's walk (function 6), some of its ways: written by mkround.py. -/
import Derived.Test.YthbcnieekpjhcaaRndH
namespace Go.Proofs.Ythbcnieekpjhcaa.Leaf
open Go.RowKit Go.Proofs.YthbcnieekpjhcaaW.PrintWords Go.Proofs.YthbcnieekpjhcaaW.PrintLast Go.Proofs.YthbcnieekpjhcaaW.PrintMore Go.Proofs.Ythbcnieekpjhcaa.Fl
set_option linter.unusedVariables false
set_option linter.unusedSimpArgs false

set_option maxRecDepth 100000 in
set_option maxHeartbeats 16000000 in
theorem round_nan_hi (p : Pr) (m : Int) (X U F T S Z : ByteArray) (v : Nat) (wm wz : Int) (w : World)
    (hX : ∀ w, Calls Try.prog 9 #[.agg #[], .int .i64 p.i] w fun e w' => e = .returned (.tuple #[.string X, .bool true]) ∧ Below w.heap.size w w')
    (hU : ∀ w, Calls Try.prog 12 #[.agg #[], .int .u64 p.u] w fun e w' => e = .returned (.tuple #[.string U, .bool true]) ∧ Below w.heap.size w w')
    (hF : ∀ w, Calls Try.prog 11 #[.agg #[], .float .f64 p.f] w fun e w' => e = .returned (.tuple #[.string F, .bool true]) ∧ Below w.heap.size w w')
    (hT : ∀ w, Calls Try.prog 13 #[.agg #[], .bool p.b] w fun e w' => e = .returned (.tuple #[.string T, .bool true]) ∧ Below w.heap.size w w')
    (hxu : ∀ w, Calls Try.prog 18 #[.agg #[], .string X] w fun e w' => e = .returned (.int .i64 p.i) ∧ Below w.heap.size w w')
    (huu : ∀ w, Calls Try.prog 19 #[.agg #[], .string U] w fun e w' => e = .returned (.int .u64 p.u) ∧ Below w.heap.size w w')
    (htu : ∀ w, Calls Try.prog 20 #[.agg #[], .string T] w fun e w' => e = .returned (.bool p.b) ∧ Below w.heap.size w w')
    (hfu : ∀ w, Calls Try.prog 21 #[.agg #[], .string F] w fun e w' => e = .returned (.float .f64 v) ∧ Below w.heap.size w w')
    (hnv : ∀ w, Calls Try.prog 15 #[.float .f64 v] w fun e w' => e = .returned (.bool false) ∧ Below w.heap.size w w')
    (hnf : ∀ w, Calls Try.prog 15 #[.float .f64 p.f] w fun e w' => e = .returned (.bool false) ∧ Below w.heap.size w w')
    (o1 : (FloatKind.f64.format.order v p.f != some .eq) = true) (o2 : (FloatKind.f64.format.order v 0 == some .eq) = false)
    (hS : ∀ w, Calls Try.prog 22 #[.agg #[.int .i64 m], .string p.s] w fun e w' => e = .returned (.tuple #[.string S, .bool false]) ∧ Below w.heap.size w w')
    (hZ : ∀ w, Calls Try.prog 25 #[sbV m, tsV p.s p.c p.j] w fun e w' => e = .returned (.tuple #[.string Z, .bool false]) ∧ Below w.heap.size w w')
    (m0 : m ≥ 0) (m1 : (m ≤ 127) = False)
    : Calls Try.prog 6 #[prV p, .int .i64 m] w fun e w' => e = .returned (.bool true) ∧ Below w.heap.size w w' := by
  have h0 : Below (w.heap.size + 1) (w.alloc (prObj p)) (w.alloc (prObj p)) := Below.refl _ _
  have hW : w.heap.size + 1 ≤ (w.alloc (prObj p)).heap.size := by simp
  have H_X := Lib.hid hX
  have H_U := Lib.hid hU
  have H_F := Lib.hid hF
  have H_T := Lib.hid hT
  have H_xu := Lib.hid hxu
  have H_uu := Lib.hid huu
  have H_tu := Lib.hid htu
  have H_fu := Lib.hid hfu
  have H_nv := Lib.hid hnv
  have H_nf := Lib.hid hnf
  have H_S := Lib.hid hS
  have H_Z := Lib.hid hZ
  clear hX hU hF hT hxu huu htu hfu hnv hnf hS hZ
  rcases p with ⟨i, j, u, v', f, g, b, c, s, t⟩
  simp only at *
  go_enter Try.func6, Try.ntmps6
  go_wp2_with fail
  refine (call_in (H_X.out _) hW h0).mono ?_
  rintro e w1 ⟨rfl, h1⟩
  clear h0
  obtain ⟨c0, c1, c2, c3, c4, c5, c6, c7, c8, c9⟩ := pr_cells h1
  go_wp2_with fail
  refine (call_in (H_U.out _) hW h1).mono ?_
  rintro e w2 ⟨rfl, h2⟩
  clear h1 c0 c1 c2 c3 c4 c5 c6 c7 c8 c9
  obtain ⟨c0, c1, c2, c3, c4, c5, c6, c7, c8, c9⟩ := pr_cells h2
  go_wp2_with fail
  refine (call_in (H_F.out _) hW h2).mono ?_
  rintro e w3 ⟨rfl, h3⟩
  clear h2 c0 c1 c2 c3 c4 c5 c6 c7 c8 c9
  obtain ⟨c0, c1, c2, c3, c4, c5, c6, c7, c8, c9⟩ := pr_cells h3
  go_wp2_with fail
  refine (call_in (H_T.out _) hW h3).mono ?_
  rintro e w4 ⟨rfl, h4⟩
  clear h3 c0 c1 c2 c3 c4 c5 c6 c7 c8 c9
  obtain ⟨c0, c1, c2, c3, c4, c5, c6, c7, c8, c9⟩ := pr_cells h4
  go_wp2_with fail
  have HPR := Lib.hid (fun (x : World) (hx : Below (w.heap.size + 1) (w.alloc (prObj ⟨i, j, u, v', f, g, b, c, s, t⟩)) x) => pr_cells hx)
  go_region_held3 (fun x => Below (w.heap.size + 1) (w.alloc (prObj ⟨i, j, u, v', f, g, b, c, s, t⟩)) x ∧ x.cell? ⟨w.heap.size, 0, none⟩ = some (.int .i64 i) ∧ x.cell? ⟨w.heap.size, 2, none⟩ = some (.int .u64 u) ∧ x.cell? ⟨w.heap.size, 6, none⟩ = some (.bool b))
    ((refine (fun h => ⟨h, (HPR.out _ h).1, (HPR.out _ h).2.2.1, (HPR.out _ h).2.2.2.2.2.2.1⟩) ?_; repeat (first | assumption | apply Below.drew)))
    (first | (go_at_call 18; refine (call_in (H_xu.out _) hW (by repeat (first | assumption | apply Below.drew))).mono ?_; rintro e wa ⟨rfl, ha⟩) | (go_at_call 19; refine (call_in (H_uu.out _) hW (by repeat (first | assumption | apply Below.drew))).mono ?_; rintro e wb ⟨rfl, hb⟩) | (go_at_call 20; refine (call_in (H_tu.out _) hW (by repeat (first | assumption | apply Below.drew))).mono ?_; rintro e wc ⟨rfl, hc⟩))
  rename_i hh
  clear hh h4 ha hb HPR H_xu H_uu H_tu c0 c1 c2 c3 c4 c5 c6 c7 c8 c9
  obtain ⟨c0, c1, c2, c3, c4, c5, c6, c7, c8, c9⟩ := pr_cells hc
  go_wp2_with fail
  refine (call_in (H_fu.out _) hW hc).mono ?_
  rintro e w5 ⟨rfl, h5⟩
  clear hc c0 c1 c2 c3 c4 c5 c6 c7 c8 c9
  obtain ⟨c0, c1, c2, c3, c4, c5, c6, c7, c8, c9⟩ := pr_cells h5
  go_wp2_with fail
  refine (call_in (H_nv.out _) hW h5).mono ?_
  rintro e w6 ⟨rfl, h6⟩
  clear h5 c0 c1 c2 c3 c4 c5 c6 c7 c8 c9
  obtain ⟨c0, c1, c2, c3, c4, c5, c6, c7, c8, c9⟩ := pr_cells h6
  go_wp2_with fail
  refine (call_in (H_nf.out _) hW h6).mono ?_
  rintro e w7 ⟨rfl, h7⟩
  clear h6 c0 c1 c2 c3 c4 c5 c6 c7 c8 c9
  obtain ⟨c0, c1, c2, c3, c4, c5, c6, c7, c8, c9⟩ := pr_cells h7
  clear c0 c1 c2 c3 c4 c5 c6 c7 c8 c9
  obtain ⟨c1, c7, c8, d0⟩ := rB_cells (m := m) h7 (Below.refl _ _)
  go_wp2_with fail
  have hWB : w7.heap.size + 1 ≤ (w7.alloc (txtObj m)).heap.size := by simp
  have b0 : Below (w7.heap.size + 1) (w7.alloc (txtObj m)) (w7.alloc (txtObj m)) := Below.refl _ _
  refine (call_in (H_S.out _) hWB b0).mono ?_
  rintro e z1 ⟨rfl, b1⟩
  clear b0 c1 c7 c8 d0
  obtain ⟨c1, c7, c8, d0⟩ := rB_cells h7 b1
  go_wp2_with fail
  go_quiet (fail)
  rename_i nq
  have b3 := pw_below_drewN b1 nq
  generalize z1.drewN nq = z3 at *
  clear b1 c1 c7 c8 d0
  have hz := rB_in h7 b3
  obtain ⟨c1, c7, c8, d0⟩ := rB_cells h7 b3
  have hs := hz.size
  obtain ⟨-, k1, -, -, -, -, -, k7, k8, -⟩ := pr_cells (hz.alloc (by simp at hs; omega) (sbObj m))
  clear hs
  go_wp2_with fail
  have hWC : z3.heap.size + 2 ≤ (rC m s c j z3).heap.size := by simp
  have e0 : Below (z3.heap.size + 2) (rC m s c j z3) (rC m s c j z3) := Below.refl _ _
  clear c1 c7 c8 d0 k1 k7 k8
  refine (call_in (H_Z.out _) hWC e0).mono ?_
  rintro e z2 ⟨rfl, e1⟩
  clear e0
  go_wp2_with fail
  go_quiet (fail)
  go_wp2_with fail
  go_ret
  exact ⟨by simp, rC_fin hz (pw_below_drewN e1 _)⟩
set_option maxRecDepth 100000 in
set_option maxHeartbeats 16000000 in
theorem round_nan_long (p : Pr) (m : Int) (X U F T S Z : ByteArray) (v : Nat) (wm wz : Int) (w : World)
    (hX : ∀ w, Calls Try.prog 9 #[.agg #[], .int .i64 p.i] w fun e w' => e = .returned (.tuple #[.string X, .bool true]) ∧ Below w.heap.size w w')
    (hU : ∀ w, Calls Try.prog 12 #[.agg #[], .int .u64 p.u] w fun e w' => e = .returned (.tuple #[.string U, .bool true]) ∧ Below w.heap.size w w')
    (hF : ∀ w, Calls Try.prog 11 #[.agg #[], .float .f64 p.f] w fun e w' => e = .returned (.tuple #[.string F, .bool true]) ∧ Below w.heap.size w w')
    (hT : ∀ w, Calls Try.prog 13 #[.agg #[], .bool p.b] w fun e w' => e = .returned (.tuple #[.string T, .bool true]) ∧ Below w.heap.size w w')
    (hxu : ∀ w, Calls Try.prog 18 #[.agg #[], .string X] w fun e w' => e = .returned (.int .i64 p.i) ∧ Below w.heap.size w w')
    (huu : ∀ w, Calls Try.prog 19 #[.agg #[], .string U] w fun e w' => e = .returned (.int .u64 p.u) ∧ Below w.heap.size w w')
    (htu : ∀ w, Calls Try.prog 20 #[.agg #[], .string T] w fun e w' => e = .returned (.bool p.b) ∧ Below w.heap.size w w')
    (hfu : ∀ w, Calls Try.prog 21 #[.agg #[], .string F] w fun e w' => e = .returned (.float .f64 v) ∧ Below w.heap.size w w')
    (hnv : ∀ w, Calls Try.prog 15 #[.float .f64 v] w fun e w' => e = .returned (.bool false) ∧ Below w.heap.size w w')
    (hnf : ∀ w, Calls Try.prog 15 #[.float .f64 p.f] w fun e w' => e = .returned (.bool false) ∧ Below w.heap.size w w')
    (o1 : (FloatKind.f64.format.order v p.f != some .eq) = true) (o2 : (FloatKind.f64.format.order v 0 == some .eq) = false)
    (hS : ∀ w, Calls Try.prog 22 #[.agg #[.int .i64 m], .string p.s] w fun e w' => e = .returned (.tuple #[.string S, .bool false]) ∧ Below w.heap.size w w')
    (hZ : ∀ w, Calls Try.prog 25 #[sbV m, tsV p.s p.c p.j] w fun e w' => e = .returned (.tuple #[.string Z, .bool false]) ∧ Below w.heap.size w w')
    (m0 : m ≥ 0) (m1 : m ≤ 127) (m2 : ((p.s.size : Int) ≤ m) = False)
    : Calls Try.prog 6 #[prV p, .int .i64 m] w fun e w' => e = .returned (.bool true) ∧ Below w.heap.size w w' := by
  have h0 : Below (w.heap.size + 1) (w.alloc (prObj p)) (w.alloc (prObj p)) := Below.refl _ _
  have hW : w.heap.size + 1 ≤ (w.alloc (prObj p)).heap.size := by simp
  have H_X := Lib.hid hX
  have H_U := Lib.hid hU
  have H_F := Lib.hid hF
  have H_T := Lib.hid hT
  have H_xu := Lib.hid hxu
  have H_uu := Lib.hid huu
  have H_tu := Lib.hid htu
  have H_fu := Lib.hid hfu
  have H_nv := Lib.hid hnv
  have H_nf := Lib.hid hnf
  have H_S := Lib.hid hS
  have H_Z := Lib.hid hZ
  clear hX hU hF hT hxu huu htu hfu hnv hnf hS hZ
  rcases p with ⟨i, j, u, v', f, g, b, c, s, t⟩
  simp only at *
  go_enter Try.func6, Try.ntmps6
  go_wp2_with fail
  refine (call_in (H_X.out _) hW h0).mono ?_
  rintro e w1 ⟨rfl, h1⟩
  clear h0
  obtain ⟨c0, c1, c2, c3, c4, c5, c6, c7, c8, c9⟩ := pr_cells h1
  go_wp2_with fail
  refine (call_in (H_U.out _) hW h1).mono ?_
  rintro e w2 ⟨rfl, h2⟩
  clear h1 c0 c1 c2 c3 c4 c5 c6 c7 c8 c9
  obtain ⟨c0, c1, c2, c3, c4, c5, c6, c7, c8, c9⟩ := pr_cells h2
  go_wp2_with fail
  refine (call_in (H_F.out _) hW h2).mono ?_
  rintro e w3 ⟨rfl, h3⟩
  clear h2 c0 c1 c2 c3 c4 c5 c6 c7 c8 c9
  obtain ⟨c0, c1, c2, c3, c4, c5, c6, c7, c8, c9⟩ := pr_cells h3
  go_wp2_with fail
  refine (call_in (H_T.out _) hW h3).mono ?_
  rintro e w4 ⟨rfl, h4⟩
  clear h3 c0 c1 c2 c3 c4 c5 c6 c7 c8 c9
  obtain ⟨c0, c1, c2, c3, c4, c5, c6, c7, c8, c9⟩ := pr_cells h4
  go_wp2_with fail
  have HPR := Lib.hid (fun (x : World) (hx : Below (w.heap.size + 1) (w.alloc (prObj ⟨i, j, u, v', f, g, b, c, s, t⟩)) x) => pr_cells hx)
  go_region_held3 (fun x => Below (w.heap.size + 1) (w.alloc (prObj ⟨i, j, u, v', f, g, b, c, s, t⟩)) x ∧ x.cell? ⟨w.heap.size, 0, none⟩ = some (.int .i64 i) ∧ x.cell? ⟨w.heap.size, 2, none⟩ = some (.int .u64 u) ∧ x.cell? ⟨w.heap.size, 6, none⟩ = some (.bool b))
    ((refine (fun h => ⟨h, (HPR.out _ h).1, (HPR.out _ h).2.2.1, (HPR.out _ h).2.2.2.2.2.2.1⟩) ?_; repeat (first | assumption | apply Below.drew)))
    (first | (go_at_call 18; refine (call_in (H_xu.out _) hW (by repeat (first | assumption | apply Below.drew))).mono ?_; rintro e wa ⟨rfl, ha⟩) | (go_at_call 19; refine (call_in (H_uu.out _) hW (by repeat (first | assumption | apply Below.drew))).mono ?_; rintro e wb ⟨rfl, hb⟩) | (go_at_call 20; refine (call_in (H_tu.out _) hW (by repeat (first | assumption | apply Below.drew))).mono ?_; rintro e wc ⟨rfl, hc⟩))
  rename_i hh
  clear hh h4 ha hb HPR H_xu H_uu H_tu c0 c1 c2 c3 c4 c5 c6 c7 c8 c9
  obtain ⟨c0, c1, c2, c3, c4, c5, c6, c7, c8, c9⟩ := pr_cells hc
  go_wp2_with fail
  refine (call_in (H_fu.out _) hW hc).mono ?_
  rintro e w5 ⟨rfl, h5⟩
  clear hc c0 c1 c2 c3 c4 c5 c6 c7 c8 c9
  obtain ⟨c0, c1, c2, c3, c4, c5, c6, c7, c8, c9⟩ := pr_cells h5
  go_wp2_with fail
  refine (call_in (H_nv.out _) hW h5).mono ?_
  rintro e w6 ⟨rfl, h6⟩
  clear h5 c0 c1 c2 c3 c4 c5 c6 c7 c8 c9
  obtain ⟨c0, c1, c2, c3, c4, c5, c6, c7, c8, c9⟩ := pr_cells h6
  go_wp2_with fail
  refine (call_in (H_nf.out _) hW h6).mono ?_
  rintro e w7 ⟨rfl, h7⟩
  clear h6 c0 c1 c2 c3 c4 c5 c6 c7 c8 c9
  obtain ⟨c0, c1, c2, c3, c4, c5, c6, c7, c8, c9⟩ := pr_cells h7
  clear c0 c1 c2 c3 c4 c5 c6 c7 c8 c9
  obtain ⟨c1, c7, c8, d0⟩ := rB_cells (m := m) h7 (Below.refl _ _)
  go_wp2_with fail
  have hWB : w7.heap.size + 1 ≤ (w7.alloc (txtObj m)).heap.size := by simp
  have b0 : Below (w7.heap.size + 1) (w7.alloc (txtObj m)) (w7.alloc (txtObj m)) := Below.refl _ _
  refine (call_in (H_S.out _) hWB b0).mono ?_
  rintro e z1 ⟨rfl, b1⟩
  clear b0 c1 c7 c8 d0
  obtain ⟨c1, c7, c8, d0⟩ := rB_cells h7 b1
  go_wp2_with fail
  go_quiet (fail)
  rename_i nq
  have b3 := pw_below_drewN b1 nq
  generalize z1.drewN nq = z3 at *
  clear b1 c1 c7 c8 d0
  have hz := rB_in h7 b3
  obtain ⟨c1, c7, c8, d0⟩ := rB_cells h7 b3
  have hs := hz.size
  obtain ⟨-, k1, -, -, -, -, -, k7, k8, -⟩ := pr_cells (hz.alloc (by simp at hs; omega) (sbObj m))
  clear hs
  go_wp2_with fail
  have hWC : z3.heap.size + 2 ≤ (rC m s c j z3).heap.size := by simp
  have e0 : Below (z3.heap.size + 2) (rC m s c j z3) (rC m s c j z3) := Below.refl _ _
  clear c1 c7 c8 d0 k1 k7 k8
  refine (call_in (H_Z.out _) hWC e0).mono ?_
  rintro e z2 ⟨rfl, e1⟩
  clear e0
  go_wp2_with fail
  go_quiet (fail)
  go_wp2_with fail
  go_ret
  exact ⟨by simp, rC_fin hz (pw_below_drewN e1 _)⟩
end Go.Proofs.Ythbcnieekpjhcaa.Leaf
