/- For every list of blocks in an arena, and every hold, right or wrong, Restore's error is the document's, the hold is not changed, and what is made tells the same hold again: StoreHolds returns true for every list of numbers and every Hold, and both read afterwards as they read before. No condition. -/
import Derived.Test.YtccblcnjeekhbaaRows
import Derived.Test.YtccblcnjeekhbaaGi
import Derived.WalkKit
import Derived.ProofKit
import Derived.OpenShut
import Derived.ChangeOld
import Derived.Below
import Derived.SizedLaws
namespace Go.Proofs.Ytccblcnjeekhbaa.Holds
open Go.ChangeShapes Go.WideShapes Go.ChangeAt Go.RowKit
set_option linter.unusedVariables false

theorem own : ownKnob Try.prog.godebug = none := by kernel_rfl
theorem laidOut : laidOutB Try.prog = true := by kernel_rfl

set_option maxRecDepth 100000 in
theorem lifted (os : Os) (started : os.Started) (H : Type) (enc : TypeId × Value → H) :
    ReturnsInHanded {} Try.checked os 3 .any (Rows.storeHoldsSpec.pre6 enc Try.prog Try.f3 Rows.storeHoldsRow.domain false) (Rows.storeHoldsSpec.post enc Try.prog Try.f3 false true false false) := by
  refine returnsInHanded_of_change_sized (C := Try.checked) own started (by kernel_rfl) Try.func3
    (ChangeSpec.witness6 (enc := enc) (C := Try.checked) false ⟨#[], #[.slice none 0 0, .agg #[.slice none 0 0, .int .i64 0, .slice none 0 0]], []⟩ 8 (by kernel_rfl) (by kernel_rfl) (by kernel_rfl) (by kernel_rfl)) ?_
  intro W base args ds gs before hval0 hW hcnd hsz0 _
  have hsz : (DataW.weightsEach Try.prog (Try.f3.params.toList ++ Rows.storeHoldsSpec.plain.varTypes Try.prog) (ds ++ gs)).all (· ≤ reachBytes) = true := hsz0
  have hval : ∀ (j : Nat) t v, Try.f3.params[j]? = some t → args[j]? = some v → Value.okWide Try.prog W .any base t v := hval0
  have hW' := hW
  obtain ⟨p, q, hA0, hV, rfl, hfz, hnd⟩ := hW
  have hA : DataW.TrodAll enc Try.prog W 0 (fun _ => true) true Try.f3.params.toList args.toList ds p := hA0
  rw [Try.params3] at hA hval hsz
  obtain ⟨v0, vs0, d0, ds0, p0, q0, hargs, rfl, rfl, h0, r0⟩ := trodAll_cons hA
  obtain ⟨v1, vs1, d1, ds1, p1, q1, rfl, rfl, rfl, h1, r1⟩ := trodAll_cons r0
  obtain ⟨rfl, rfl, rfl⟩ := trodAll_nil r1
  obtain rfl : args = #[v0, v1] := by cases args; simp_all
  obtain ⟨rfl, rfl⟩ := trodVars_none hV
  obtain ⟨a0, len0, cap0, rfl⟩ := okWide_slice Try.underlying22 (hval 0 22 v0 rfl rfl)
  obtain ⟨cs, rfl, hcs⟩ := okWide_struct Try.underlying26 (hval 1 26 v1 rfl rfl)
  rw [n26] at hcs
  have k0 := h0
  have k1 := h1
  have lt0 : ∀ x ∈ p0, x.block < W.heap.size := by obtain ⟨m, hm⟩ := k0; exact DataW.trod_lt m _ _ _ hm
  have lt1 : ∀ x ∈ p1, x.block < W.heap.size := by obtain ⟨m, hm⟩ := k1; exact DataW.trod_lt m _ _ _ hm
  obtain ⟨f0, hf0⟩ := h0
  obtain ⟨f1, hf1⟩ := h1
  obtain ⟨zs, rfl, hz1, hzC⟩ := ints_open hf0
  obtain ⟨A1, c1, A3, c3, xs, nx, ks, hpr, hx1, hxC, hxw, hk1, hkC, hkw, e0, e1, e2, hd, hl1, hl3⟩ := hold_open (cs := cs.toList) (by rw [Array.length_toList]; exact hcs) hf1
  obtain rfl : cs = #[.slice A1 xs.length c1, .int .i64 nx, .slice A3 ks.length c3] := by
    apply Array.toList_inj.mp
    exact hpr
  simp only at hd
  subst hd
  have y1 := reach41 hsz (j := 1) rfl rfl hl1
  have y3 := reach47 hsz (j := 1) rfl rfl hl3
  clear hA0 hval0 hsz0 hsz
  refine (law_call a0 A1 A3 cap0 c1 c3 zs xs nx ks W hzC hz1 hxC hx1 (by omega) hxw hkC hk1 (by omega) (fun x hx => ⟨(hkw x hx).1, wf_range (hkw x hx).2⟩)).mono fun e W' ⟨he, bel⟩ => ?_
  subst he
  exact ⟨_, rfl, _, _, _, [], _, [], hW', trodAll_mk1 (shut_bool Try.underlying4 _), (trodAll_cons_mk (Below.trod laidOut (by kernel_rfl) (of_decide_eq_true (by kernel_rfl)) k0 bel lt0) (trodAll_cons_mk (Below.trod laidOut (by kernel_rfl) (of_decide_eq_true (by kernel_rfl)) k1 bel lt1) trodAll_mk0)), rfl, bel.frame _, fun h => by cases h⟩

theorem over : Rows.storeHoldsRow.holds Try.pinned (OpenSpec.ofChange Rows.storeHoldsSpec) :=
  OpenClaim.holds_of_wide 3 Try.f3 rfl rfl rfl rfl rfl rfl rfl ⟨rfl, rfl, rfl, rfl, rfl⟩ rfl rfl rfl rfl rfl (by kernel_rfl) Try.func3 (by kernel_rfl)
    (of_decide_eq_true (by kernel_rfl)) (by unfold Func.isWrapper; first | (rw [if_pos (by decide +kernel)]; kernel_rfl) | (rw [if_neg (by decide +kernel)]; exact ⟨rfl, rfl⟩))
    (fun os started H enc _ => lifted os started H enc)
end Go.Proofs.Ytccblcnjeekhbaa.Holds
namespace Go.Proofs.Ytccblcnjeekhbaa
/-- The statement. -/
theorem storeHolds_holds : Rows.StoreHoldsSaid := Holds.over
#print axioms storeHolds_holds
end Go.Proofs.Ytccblcnjeekhbaa
