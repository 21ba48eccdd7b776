/- What is laid and read again is the value: TypedRound returns true for every Pair and every greatest length of a text, and the Pair reads afterwards as it read before. No condition. -/
import Derived.Test.YthbcnieekpjhcaaRows
import Derived.Test.YthbcnieekpjhcaaRndF
import Derived.Test.YthbcnieekpjhcaaAsks
import Derived.WalkKit
import Derived.ProofKit
import Derived.OpenShut
import Derived.ChangeOld
import Derived.Below
namespace Go.Proofs.Ythbcnieekpjhcaa.Round
open Go.ChangeShapes Go.WideShapes Go.ChangeAt Go.RowKit
set_option linter.unusedVariables false
set_option linter.unusedSimpArgs false

theorem own : ownKnob Try.prog.godebug = none := by kernel_rfl
theorem laidOut : laidOutB Try.prog = true := by kernel_rfl
theorem cells36 : Try.prog.cellsOf 36 = 10 := by kernel_rfl

set_option maxRecDepth 100000 in
open Leaf in
/-- A Pair that came in. -/
theorem pair_open {H : Type} {enc : TypeId × Value → H} {w : World} {base : Nat} {spare : Nat → Bool} {held : Bool} {cs : List Value} {x : DataW H × List MemPlace} {fuel : Nat}
    (hl : cs.length = 10) (h : DataW.trod enc Try.prog w base spare held fuel 36 cs = some x) : ∃ p : Pr, PrOk p ∧ cs = (prV p).cells.toList := by
  obtain ⟨xs, q, hq, hxy, _, hxl, hf⟩ := DataW.trod_struct Try.underlying36 h
  have hxl : xs.length = 10 := hxl
  match cs, hl with
  | [v0, v1, v2, v3, v4, v5, v6, v7, v8, v9], _ =>
    have g0 := hf 0 _ rfl
    have g1 := hf 1 _ rfl
    have g2 := hf 2 _ rfl
    have g3 := hf 3 _ rfl
    have g4 := hf 4 _ rfl
    have g5 := hf 5 _ rfl
    have g6 := hf 6 _ rfl
    have g7 := hf 7 _ rfl
    have g8 := hf 8 _ rfl
    have g9 := hf 9 _ rfl
    simp [cells2, cells3, cells4, cells9, cells24, cells25] at g0 g1 g2 g3 g4 g5 g6 g7 g8 g9
    rw [List.getElem?_eq_getElem (by omega)] at g0 g1 g2 g3 g4 g5 g6 g7 g8 g9
    obtain ⟨i, e0, -, w0⟩ := DataW.trod_int Try.underlying2 g0
    obtain ⟨j, e1, -, w1⟩ := DataW.trod_int Try.underlying2 g1
    obtain ⟨u, e2, -, w2⟩ := DataW.trod_int Try.underlying24 g2
    obtain ⟨v, e3, -, w3⟩ := DataW.trod_int Try.underlying24 g3
    obtain ⟨f, e4, -, w4⟩ := trod_float Try.underlying25 g4
    obtain ⟨g, e5, -, w5⟩ := trod_float Try.underlying25 g5
    obtain ⟨b, e6, -⟩ := DataW.trod_bool Try.underlying4 g6
    obtain ⟨c, e7, -⟩ := DataW.trod_bool Try.underlying4 g7
    obtain ⟨s, e8, -, w8⟩ := DataW.trod_string Try.underlying9 g8
    obtain ⟨t, e9, -, w9⟩ := DataW.trod_string Try.underlying9 g9
    simp at e0 e1 e2 e3 e4 e5 e6 e7 e8 e9
    subst e0 e1 e2 e3 e4 e5 e6 e7 e8 e9
    simp [Lit.wf] at w0 w1 w2 w3 w4 w5
    have m0 : IntKind.i64.min = -9223372036854775808 := rfl
    have m1 : IntKind.u64.min = 0 := rfl
    have m2 : IntKind.u64.max = 18446744073709551615 := rfl
    rw [m0] at w0 w1
    rw [m1, m2] at w2 w3
    exact ⟨⟨i, j, u, v, f, g, b, c, s, t⟩, ⟨by simp only []; omega, by simp only []; omega, by simp only []; omega, by simp only []; omega, by simp only []; omega, by simp only []; omega, by simp only []; omega, by simp only []; omega, by simp only []; omega, by simp only []; omega⟩, rfl⟩

set_option maxRecDepth 100000 in
theorem lifted (os : Os) (started : os.Started) (H : Type) (enc : TypeId × Value → H) :
    ReturnsInHanded {} Try.checked os 6 .any (Rows.typedRoundSpec.pre6 enc Try.prog Try.f6 Rows.typedRoundRow.domain false) (Rows.typedRoundSpec.post enc Try.prog Try.f6 false true false false) := by
  refine returnsInHanded_of_change (C := Try.checked) own started (by kernel_rfl) Try.func6
    (ChangeSpec.witness6 (enc := enc) (C := Try.checked) false ⟨#[], #[.agg #[.int .i64 0, .int .i64 0, .int .u64 0, .int .u64 0, .float .f64 0, .float .f64 0, .bool false, .bool false, .string ⟨#[]⟩, .string ⟨#[]⟩], .int .i64 0], []⟩ 8 (by kernel_rfl) (by kernel_rfl) (by kernel_rfl) (by kernel_rfl)) ?_
  intro W base args ds gs before hval0 hW hcnd _
  have hval : ∀ (j : Nat) t v, Try.f6.params[j]? = some t → args[j]? = some v → Value.okWide Try.prog W .any base t v := hval0
  have hW' := hW
  obtain ⟨p, q, hA0, hV, rfl, hfz, hnd⟩ := hW
  have hA : DataW.TrodAll enc Try.prog W 0 (fun _ => true) true Try.f6.params.toList args.toList ds p := hA0
  rw [Try.params6] at hA hval
  obtain ⟨v0, vs0, d0, ds0, p0, q0, hargs, rfl, rfl, h0, r0⟩ := trodAll_cons hA
  obtain ⟨v1, vs1, d1, ds1, p1, q1, hargs1, rfl, rfl, h1, r1⟩ := trodAll_cons r0
  obtain ⟨rfl, rfl, rfl⟩ := trodAll_nil r1
  obtain rfl : args = #[v0, v1] := by cases args; simp_all
  obtain ⟨rfl, rfl⟩ := trodVars_none hV
  obtain ⟨cs, rfl, hcs⟩ := okWide_struct Try.underlying36 (hval 0 36 v0 rfl rfl)
  rw [cells36] at hcs
  have k0 := h0
  have lt0 : ∀ x ∈ p0, x.block < W.heap.size := by obtain ⟨m, hm⟩ := k0; exact DataW.trod_lt m _ _ _ hm
  obtain ⟨fuel, hf⟩ := h0
  obtain ⟨pr, pok, hpr⟩ := pair_open (cs := cs.toList) (by rw [Array.length_toList]; exact hcs) hf
  obtain rfl : cs = #[.int .i64 pr.i, .int .i64 pr.j, .int .u64 pr.u, .int .u64 pr.v, .float .f64 pr.f, .float .f64 pr.g, .bool pr.b, .bool pr.c, .string pr.s, .string pr.t] := by
    apply Array.toList_inj.mp
    exact hpr
  have k1 := h1
  have lt1 : ∀ x ∈ p1, x.block < W.heap.size := by obtain ⟨m, hm⟩ := k1; exact DataW.trod_lt m _ _ _ hm
  obtain ⟨mo, rfl⟩ := okWide_int Try.underlying3 (hval 1 3 v1 rfl rfl)
  clear hA0 hval0
  refine (Leaf.round_walk pr pok mo W).mono fun e W' ⟨he, bel⟩ => ?_
  subst he
  exact ⟨_, rfl, _, _, _, [], _, [], hW', trodAll_mk1 (shut_bool Try.underlying4 _), (trodAll_cons_mk (Below.trod laidOut (by kernel_rfl) (of_decide_eq_true (by kernel_rfl)) k0 bel lt0) (trodAll_cons_mk (Below.trod laidOut (by kernel_rfl) (of_decide_eq_true (by kernel_rfl)) k1 bel lt1) trodAll_mk0)), rfl, bel.frame _, fun h => by cases h⟩

theorem over : Rows.typedRoundRow.holds Try.pinned (OpenSpec.ofChange Rows.typedRoundSpec) :=
  OpenClaim.holds_of_wide 6 Try.f6 rfl rfl rfl rfl rfl rfl rfl ⟨rfl, rfl, rfl, rfl, rfl⟩ rfl rfl rfl rfl rfl (by kernel_rfl) Try.func6 (by kernel_rfl)
    (of_decide_eq_true (by kernel_rfl)) (by unfold Func.isWrapper; first | (rw [if_pos (by decide +kernel)]; kernel_rfl) | (rw [if_neg (by decide +kernel)]; exact ⟨rfl, rfl⟩))
    (fun os started H enc _ => lifted os started H enc)
end Go.Proofs.Ythbcnieekpjhcaa.Round
namespace Go.Proofs.Ythbcnieekpjhcaa
/-- The statement. -/
theorem typedRound_holds : Rows.TypedRoundSaid := Round.over
#print axioms typedRound_holds
end Go.Proofs.Ythbcnieekpjhcaa
