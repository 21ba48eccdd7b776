/- Both[bool, int64]: Pack, Unpack, Width, walked. -/
import Derived.Test.YthbcnieekpjhcaaBothU
namespace Go.Proofs.Ythbcnieekpjhcaa.Leaf
open Go.RowKit Go.Proofs.YthbcnieekpjhcaaW.PrintWords Go.Proofs.YthbcnieekpjhcaaW.PrintLast Go.Proofs.YthbcnieekpjhcaaW.PrintMore
set_option linter.unusedVariables false
set_option linter.unusedSimpArgs false

abbrev biV : Value := .agg #[.iface 39 (.agg #[]), .iface 30 (.agg #[])]
abbrev biObj : Obj := .cells #[.iface 39 (.agg #[]), .iface 30 (.agg #[])] 59
abbrev tbV (b : Bool) (i : Int) : Value := .agg #[.bool b, .int .i64 i]
abbrev tbObj (b : Bool) (i : Int) : Obj := .cells #[.bool b, .int .i64 i] 67
theorem q_bpack (w : World) : (method 222 39 (.agg #[]) "Pack").run Try.prog w = .ok (13, .agg #[]) w := by kernel_rfl
theorem q_bunpack (w : World) : (method 222 39 (.agg #[]) "Unpack").run Try.prog w = .ok (20, .agg #[]) w := by kernel_rfl
theorem q_bwidth (w : World) : (method 222 39 (.agg #[]) "Width").run Try.prog w = .ok (55, .agg #[]) w := by kernel_rfl
theorem q_ipack (w : World) : (method 222 30 (.agg #[]) "Pack").run Try.prog w = .ok (9, .agg #[]) w := by kernel_rfl
theorem q_iunpack (w : World) : (method 222 30 (.agg #[]) "Unpack").run Try.prog w = .ok (18, .agg #[]) w := by kernel_rfl
theorem q_iwidth (w : World) : (method 222 30 (.agg #[]) "Width").run Try.prog w = .ok (32, .agg #[]) w := by kernel_rfl

abbrev biW (b : Bool) (i : Int) (w : World) : World := (w.alloc biObj).alloc (tbObj b i)
theorem biW_cells {b : Bool} {i : Int} {w x : World} (h : Below (w.heap.size + 2) (biW b i w) x) :
    x.cell? ⟨w.heap.size, 0, none⟩ = some (.iface 39 (.agg #[])) ∧ x.cell? ⟨w.heap.size, 1, none⟩ = some (.iface 30 (.agg #[])) ∧
    x.cell? ⟨w.heap.size + 1, 0, none⟩ = some (.bool b) ∧ x.cell? ⟨w.heap.size + 1, 1, none⟩ = some (.int .i64 i) ∧
    x.frozen? ⟨w.heap.size + 1, 0, none⟩ = false ∧ x.frozen? ⟨w.heap.size + 1, 1, none⟩ = false := by
  have e : ∀ o, x.cell? ⟨w.heap.size, o, none⟩ = (biW b i w).cell? ⟨w.heap.size, o, none⟩ := fun o => h.cell (p := ⟨w.heap.size, o, none⟩) (by simp)
  have e' : ∀ o, x.cell? ⟨w.heap.size + 1, o, none⟩ = (biW b i w).cell? ⟨w.heap.size + 1, o, none⟩ := fun o => h.cell (p := ⟨w.heap.size + 1, o, none⟩) (by simp)
  have f' : ∀ o, x.frozen? ⟨w.heap.size + 1, o, none⟩ = (biW b i w).frozen? ⟨w.heap.size + 1, o, none⟩ := fun o => h.frozen (p := ⟨w.heap.size + 1, o, none⟩) (by simp)
  simp only [e, e', f', biW, biObj, tbObj]
  refine ⟨?_, ?_, ?_, ?_, ?_, ?_⟩ <;> go_simp
theorem biW_fin {b : Bool} {i : Int} {w x : World} (h : Below (w.heap.size + 2) (biW b i w) x) : Below w.heap.size w x :=
  (((Below.refl w.heap.size w).alloc (Nat.le_refl _) biObj).alloc (by simp) (tbObj b i)).trans (h.mono (by omega))
theorem packB_size (b : Bool) : (packB b).size = 1 := by cases b <;> rfl

set_option maxRecDepth 100000 in
theorem bi_pack (b : Bool) (i : Int) (w : World) (i0 : -9223372036854775808 ≤ i) (i1 : i ≤ 9223372036854775807) :
    Calls Try.prog 79 #[biV, tbV b i] w fun e w' => e = .returned (.tuple #[.string (packB b ++ be8 (i + 9223372036854775808)), .bool true]) ∧ Below w.heap.size w w' := by
  have h0 : Below (w.heap.size + 2) (biW b i w) (biW b i w) := Below.refl _ _
  have hW : w.heap.size + 2 ≤ (biW b i w).heap.size := by simp
  have m1 := q_ipack
  have m2 := q_bpack
  have hc := fun w => bool_pack b w
  have hd := fun w => int_pack i w i0 i1
  have s1 := be8_size (i + 9223372036854775808)
  have s2 := packB_size b
  generalize be8 (i + 9223372036854775808) = Y at *
  generalize packB b = X at *
  have c1 : (X.size + Y.size ≤ 9223372036854775807) = True := eq_true (by omega)
  have c2 : (9223372036854775807 < X.size + Y.size) = False := eq_false (by omega)
  have HC := Lib.hid hc
  have HD := Lib.hid hd
  clear hc hd s1 s2 i0 i1
  go_enter Try.func79, Try.ntmps79
  go_wp2_with fail
  refine (call_in (HC.out _) hW h0).mono ?_
  rintro e w1 ⟨rfl, h1⟩
  clear h0
  obtain ⟨d0, d1, d2, d3, d4, d5⟩ := biW_cells h1
  go_wp2_with fail
  refine (call_in (HD.out _) hW h1).mono ?_
  rintro e w2 ⟨rfl, h2⟩
  clear h1
  go_wp2_with fail
  go_ret2
  exact ⟨rfl, biW_fin h2⟩

abbrev biO (w : World) : World := w.alloc biObj
theorem biO_cells {w x : World} (h : Below (w.heap.size + 1) (biO w) x) :
    x.cell? ⟨w.heap.size, 0, none⟩ = some (.iface 39 (.agg #[])) ∧ x.cell? ⟨w.heap.size, 1, none⟩ = some (.iface 30 (.agg #[])) := by
  have e : ∀ o, x.cell? ⟨w.heap.size, o, none⟩ = (biO w).cell? ⟨w.heap.size, o, none⟩ := fun o => h.cell (p := ⟨w.heap.size, o, none⟩) (by simp)
  simp only [e, biO, biObj]
  refine ⟨?_, ?_⟩ <;> go_simp
theorem biO_fin {w x : World} (h : Below (w.heap.size + 1) (biO w) x) : Below w.heap.size w x := below_box0.trans (h.mono (by omega))

set_option maxRecDepth 100000 in
set_option maxHeartbeats 4000000 in
theorem bi_width (w : World) : Calls Try.prog 81 #[biV] w fun e w' => e = .returned (.int .i64 9) ∧ Below w.heap.size w w' := by
  have h0 : Below (w.heap.size + 1) (biO w) (biO w) := Below.refl _ _
  have hW : w.heap.size + 1 ≤ (biO w).heap.size := by simp
  have m1 := q_bwidth
  have m2 := q_iwidth
  go_enter Try.func81, Try.ntmps81
  go_wp2_with fail
  go_region_held3 (fun x => Below (w.heap.size + 1) (biO w) x ∧ x.cell? ⟨w.heap.size, 0, none⟩ = some (.iface 39 (.agg #[])) ∧ x.cell? ⟨w.heap.size, 1, none⟩ = some (.iface 30 (.agg #[])))
    ((refine (fun h => ⟨h, biO_cells h⟩) ?_; repeat (first | assumption | apply Below.drew)))
    (first | (go_at_call 55; refine (call_in (bool_width _) hW (by repeat (first | assumption | apply Below.drew))).mono ?_; rintro e wa ⟨rfl, ha⟩) | (go_at_call 32; refine (call_in (int_width _) hW (by repeat (first | assumption | apply Below.drew))).mono ?_; rintro e wb ⟨rfl, hb⟩))
  all_goals
    go_wp2_with fail
    go_ret
    exact ⟨rfl, biO_fin (by repeat (first | assumption | apply Below.drew))⟩

-- the first byte, and the eight behind it
set_option maxRecDepth 100000 in
set_option maxHeartbeats 8000000 in
theorem bi_unpack (s : ByteArray) (w : World) (hs : s.size = 9) : Calls Try.prog 80 #[biV, .string s] w fun e w' =>
    e = .returned (tbV (unpackB (s.extract 0 1)) (int8 (s.extract 1 s.size))) ∧ Below w.heap.size w w' := by
  have h0 : Below (w.heap.size + 2) (biW false 0 w) (biW false 0 w) := Below.refl _ _
  have hW : w.heap.size + 2 ≤ (biW false 0 w).heap.size := by simp
  have m1 := q_bwidth
  have m2 := q_bunpack
  have m3 := q_iunpack
  have p1 : ((1 : Int) ≤ (s.size : Int)) = True := eq_true (by omega)
  have q1 : (((s.size : Nat) : Int) != 9) = false := bne_eq_false_iff_eq.mpr (by omega)
  clear hs
  go_enter Try.func80, Try.ntmps80
  go_wp2_with fail
  refine (call_in (bi_width _) hW h0).mono ?_
  rintro e w1 ⟨rfl, h1⟩
  clear h0
  obtain ⟨c0, c1, c2, c3, f0, f1⟩ := biW_cells h1
  go_wp2_with fail
  refine (call_in (bool_width _) hW h1).mono ?_
  rintro e w2 ⟨rfl, h2⟩
  clear h1 c0 c1 c2 c3 f0 f1
  obtain ⟨c0, c1, c2, c3, f0, f1⟩ := biW_cells h2
  go_wp2_with fail
  go_region_with (first | (go_at_call 20; refine (call_in (bool_unpack _ _) hW (by repeat (first | assumption | apply Below.drew))).mono ?_; rintro e wa ⟨rfl, ha⟩; have ha' := ha; obtain ⟨c0, c1, c2, c3, f0, f1⟩ := biW_cells ha') | (go_at_call 18; refine (call_in (int_unpack _ _) hW (by repeat (first | assumption | apply Below.drew))).mono ?_; rintro e wb ⟨rfl, hb⟩; have hb' := hb; obtain ⟨c0, c1, c2, c3, f0, f1⟩ := biW_cells hb'))
  all_goals
    clear m1 m2 m3
    go_wp2_with fail
    refine bodyPost_ret (v := tbV (unpackB (s.extract 0 1)) (int8 (s.extract 1 s.size))) (by simp [results, Try.results80, go_sem, c2, c3, f0, f1]) rfl ⟨rfl, ?_⟩
    exact unp_sets (biW_fin (by repeat (first | assumption | apply Below.drew)))
end Go.Proofs.Ythbcnieekpjhcaa.Leaf
