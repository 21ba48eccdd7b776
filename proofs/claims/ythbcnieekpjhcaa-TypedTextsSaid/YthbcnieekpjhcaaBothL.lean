/- The law of one ask: Both of Text and Uint (function 29). -/
import Derived.Test.YthbcnieekpjhcaaTextW
namespace Go.Proofs.Ythbcnieekpjhcaa.Leaf
open Go.RowKit Go.Proofs.YthbcnieekpjhcaaW.PrintWords Go.Proofs.YthbcnieekpjhcaaW.PrintLast Go.Proofs.YthbcnieekpjhcaaW.PrintMore
set_option linter.unusedVariables false
set_option linter.unusedSimpArgs false

abbrev bothWo (i u : Int) (f : Nat) (b : Bool) (m : Int) (s raw : ByteArray) (w : World) : World := (w.alloc (askObj i u f b m s raw)).alloc (bothObj m)
theorem bothWo_cells {i u : Int} {f : Nat} {b : Bool} {m : Int} {s raw : ByteArray} {w x : World} (h : Below (w.heap.size + 2) (bothWo i u f b m s raw w) x) :
    x.cell? ⟨w.heap.size, 1, none⟩ = some (.int .u64 u) ∧
    x.cell? ⟨w.heap.size, 4, none⟩ = some (.int .i64 m) ∧ x.cell? ⟨w.heap.size, 5, none⟩ = some (.string s) ∧ x.cell? ⟨w.heap.size, 6, none⟩ = some (.string raw) ∧
    x.cell? ⟨w.heap.size + 1, 0, none⟩ = some (.iface 50 (.agg #[.int .i64 m])) ∧ x.cell? ⟨w.heap.size + 1, 1, none⟩ = some (.iface 37 (.agg #[])) := by
  have e : ∀ o, x.cell? ⟨w.heap.size, o, none⟩ = (bothWo i u f b m s raw w).cell? ⟨w.heap.size, o, none⟩ := fun o => h.cell (p := ⟨w.heap.size, o, none⟩) (by simp)
  have e' : ∀ o, x.cell? ⟨w.heap.size + 1, o, none⟩ = (bothWo i u f b m s raw w).cell? ⟨w.heap.size + 1, o, none⟩ := fun o => h.cell (p := ⟨w.heap.size + 1, o, none⟩) (by simp)
  simp only [e, e', askObj, bothWo, bothObj]
  refine ⟨?_, ?_, ?_, ?_, ?_, ?_⟩ <;> go_simp
theorem bothWo_fin {i u : Int} {f : Nat} {b : Bool} {m : Int} {s raw : ByteArray} {w x : World} (h : Below (w.heap.size + 2) (bothWo i u f b m s raw w) x) : Below w.heap.size w x :=
  (((Below.refl w.heap.size w).alloc (Nat.le_refl _) _).alloc (by simp) _).trans (h.mono (by omega))
/-- behind Both.Unpack: its answer in a variable -/
theorem endWo_cells {i u : Int} {f : Nat} {b : Bool} {m : Int} {s raw t : ByteArray} {k : Int} {w y x : World} (hy : Below (w.heap.size + 2) (bothWo i u f b m s raw w) y) (h : Below (y.heap.size + 1) (y.alloc (twoObj t k)) x) :
    x.cell? ⟨w.heap.size, 4, none⟩ = some (.int .i64 m) ∧ x.cell? ⟨w.heap.size, 6, none⟩ = some (.string raw) ∧
    x.cell? ⟨y.heap.size, 0, none⟩ = some (.string t) ∧ x.cell? ⟨y.heap.size, 1, none⟩ = some (.int .u64 k) := by
  have hs := hy.size
  have hx : Below (w.heap.size + 2) (bothWo i u f b m s raw w) x := (hy.alloc (by simp at hs; omega) _).trans (h.mono (by simp at hs; omega))
  obtain ⟨-, c4, -, c6, -, -⟩ := bothWo_cells hx
  have e' : ∀ o, x.cell? ⟨y.heap.size, o, none⟩ = (y.alloc (twoObj t k)).cell? ⟨y.heap.size, o, none⟩ := fun o => h.cell (p := ⟨y.heap.size, o, none⟩) (by simp)
  refine ⟨c4, c6, ?_, ?_⟩ <;> rw [e', twoObj] <;> go_simp
theorem endWo_fin {i u : Int} {f : Nat} {b : Bool} {m : Int} {s raw t : ByteArray} {k : Int} {w y x : World} (hy : Below (w.heap.size + 2) (bothWo i u f b m s raw w) y) (h : Below (y.heap.size + 1) (y.alloc (twoObj t k)) x) : Below w.heap.size w x := by
  have hs := hy.size
  exact bothWo_fin ((hy.alloc (by simp at hs; omega) _).trans (h.mono (by simp at hs; omega)))

set_option maxRecDepth 100000 in
set_option maxHeartbeats 8000000 in
theorem both_call_t (i u : Int) (f : Nat) (b : Bool) (m : Int) (s raw : ByteArray) (w : World) (u0 : 0 ≤ u) (u1 : u < 18446744073709551616) (hin : textIn m s = true) :
    Calls Try.prog 29 #[.agg #[.int .i64 i, .int .u64 u, .float .f64 f, .bool b, .int .i64 m, .string s, .string raw]] w fun e w' => e = .returned (.bool true) ∧ Below w.heap.size w w' := by
  have hW : w.heap.size + 2 ≤ (bothWo i u f b m s raw w).heap.size := by simp
  have h0 : Below (w.heap.size + 2) (bothWo i u f b m s raw w) (bothWo i u f b m s raw w) := Below.refl _ _
  have hp := fun w => both_pack m s u w
  have hq := fun w => rtext_pack m s w
  have hsz : (packT m s).size ≤ 128 := by unfold packT; rw [if_pos hin]; exact textOf_size m s hin
  have hpp : packP m s u = packT m s ++ be8 u := by unfold packP; rw [if_pos hin]
  rw [hpp, hin] at hp
  simp only [hin] at hq
  have h8 := be8_size u
  have a1 : ((packT m s).size + (be8 u).size ≤ 9223372036854775807) = True := eq_true (by omega)
  have a2 : (9223372036854775807 < (packT m s).size + (be8 u).size) = False := eq_false (by omega)
  have hr := widthT_range m
  have hwr : IntKind.i64.wrap (widthT m + 8) = widthT m + 8 := by rw [IntKind.wrap_i64]; omega
  have hU1 : (raw.size : Int) = widthT m + 8 → unpackT m (raw.extract 0 (widthT m).toNat) = unFirst m raw := fun h => by unfold unFirst; rw [if_pos h]
  have hU2 : (raw.size : Int) = widthT m + 8 → num8 (raw.extract (widthT m).toNat raw.size) = unSecond m raw := fun h => by unfold unSecond; rw [if_pos h]
  have hV1 : ¬ (raw.size : Int) = widthT m + 8 → unFirst m raw = ⟨#[]⟩ := fun h => by unfold unFirst; rw [if_neg h]
  have hV2 : ¬ (raw.size : Int) = widthT m + 8 → unSecond m raw = 0 := fun h => by unfold unSecond; rw [if_neg h]
  have hw1 := fun w => rtext_width m w
  have hw2 := fun w => both_width m w
  have hbu := fun w => both_unpack m raw w
  generalize unFirst m raw = F at *
  generalize unSecond m raw = G at *
  generalize packT m s = p at *
  generalize widthT m = t at *
  have HBU := Lib.hid hbu
  have HP := Lib.hid hp
  have HQ := Lib.hid hq
  have HW1 := Lib.hid hw1
  have HW2 := Lib.hid hw2
  have HR := Lib.hid hr
  have HU1 := Lib.hid hU1
  have HU2 := Lib.hid hU2
  have HV1 := Lib.hid hV1
  have HV2 := Lib.hid hV2
  clear hp hq hsz hpp h8 hr hU1 hU2 hV1 hV2 hw1 hw2 hin hbu
  go_enter Try.func29, Try.ntmps29
  go_wp2_with fail
  refine (call_in (HP.out _) hW h0).mono ?_
  rintro e w1 ⟨rfl, h1⟩
  clear h0
  obtain ⟨c1, c4, c5, c6, d0, d1⟩ := bothWo_cells h1
  go_wp2_with fail
  refine (call_in (HQ.out _) hW h1).mono ?_
  rintro e w2 ⟨rfl, h2⟩
  clear c1 c4 c5 c6 d0 d1 h1
  obtain ⟨c1, c4, c5, c6, d0, d1⟩ := bothWo_cells h2
  go_wp2_with fail
  refine (call_in (ref_bytes _ _ u0 u1) hW h2).mono ?_
  rintro e w3 ⟨rfl, h3⟩
  clear c1 c4 c5 c6 d0 d1 h2
  obtain ⟨c1, c4, c5, c6, d0, d1⟩ := bothWo_cells h3
  go_wp2_with fail
  refine (call_in (HW1.out _) hW h3).mono ?_
  rintro e w4 ⟨rfl, h4⟩
  clear c1 c4 c5 c6 d0 d1 h3
  obtain ⟨c1, c4, c5, c6, d0, d1⟩ := bothWo_cells h4
  go_wp2_with fail
  refine (call_in (HW2.out _) hW h4).mono ?_
  rintro e w5 ⟨rfl, h5⟩
  clear c1 c4 c5 c6 d0 d1 h4
  obtain ⟨c1, c4, c5, c6, d0, d1⟩ := bothWo_cells h5
  go_wp2_with fail
  refine (call_in (both_align _ _) hW h5).mono ?_
  rintro e w6 ⟨rfl, h6⟩
  clear c1 c4 c5 c6 d0 d1 h5
  obtain ⟨c1, c4, c5, c6, d0, d1⟩ := bothWo_cells h6
  go_wp2_with fail
  refine (call_in (HBU.out _) hW h6).mono ?_
  rintro e w7 ⟨rfl, h7⟩
  clear c1 c4 c5 c6 d0 d1 h6
  obtain ⟨c4, c6, d0, d1⟩ := endWo_cells (t := F) (k := G) h7 (Below.refl _ _)
  by_cases hs : (raw.size : Int) = t + 8
  · have e1 := HU1.out hs
    have e2 := HU2.out hs
    have p0 : (0 ≤ t) = True := eq_true (by have := HR.out; omega)
    have p1 : (t ≤ (raw.size : Int)) = True := eq_true (by have := HR.out; omega)
    have q1 : (((raw.size : Nat) : Int) != t + 8) = false := bne_eq_false_iff_eq.mpr hs
    clear hs
    go_wp2_with fail
    have hW7 : w7.heap.size + 1 ≤ (w7.alloc (twoObj F G)).heap.size := by simp
    have h8 : Below (w7.heap.size + 1) (w7.alloc (twoObj F G)) (w7.alloc (twoObj F G)) := Below.refl _ _
    have HE := Lib.hid (fun (x : World) (hx : Below (w7.heap.size + 1) (w7.alloc (twoObj F G)) x) => endWo_cells (t := F) (k := G) h7 hx)
    have HF := Lib.hid (fun (x : World) (hx : Below (w7.heap.size + 1) (w7.alloc (twoObj F G)) x) => endWo_fin (t := F) (k := G) h7 hx)
    clear h7 HP HQ HW1 HW2 HBU HV1 HV2 HR HU1 HU2
    go_region_held3 (fun x => Below (w7.heap.size + 1) (w7.alloc (twoObj F G)) x ∧ x.cell? ⟨w.heap.size, 4, none⟩ = some (.int .i64 m) ∧ x.cell? ⟨w.heap.size, 6, none⟩ = some (.string raw) ∧
      x.cell? ⟨w7.heap.size, 0, none⟩ = some (.string F) ∧ x.cell? ⟨w7.heap.size, 1, none⟩ = some (.int .u64 G))
      ((refine (fun h => ⟨h, HE.out _ h⟩) ?_; repeat (first | assumption | apply Below.drew)))
      (first | (go_at_call 53; refine (call_in (rtext_unpack _ _ _) hW7 (by repeat (first | assumption | apply Below.drew))).mono ?_; rintro e wa ⟨rfl, ha⟩) | (go_at_call 37; refine (call_in (ref_number _ _) hW7 (by repeat (first | assumption | apply Below.drew))).mono ?_; rintro e wb ⟨rfl, hb⟩))
    all_goals
      go_wp2_with fail
      go_ret
      exact ⟨by simp, HF.out _ (by repeat (first | assumption | apply Below.drew))⟩
  · have e1 := HV1.out hs
    have e2 := HV2.out hs
    have q1 : (((raw.size : Nat) : Int) != t + 8) = true := bne_iff_ne.mpr hs
    clear hs
    subst e1 e2
    go_wp2_with fail
    go_ret
    exact ⟨rfl, endWo_fin h7 (Below.refl _ _)⟩
set_option maxRecDepth 100000 in
set_option maxHeartbeats 8000000 in
theorem both_call_f (i u : Int) (f : Nat) (b : Bool) (m : Int) (s raw : ByteArray) (w : World) (u0 : 0 ≤ u) (u1 : u < 18446744073709551616) (hin : textIn m s = false) :
    Calls Try.prog 29 #[.agg #[.int .i64 i, .int .u64 u, .float .f64 f, .bool b, .int .i64 m, .string s, .string raw]] w fun e w' => e = .returned (.bool true) ∧ Below w.heap.size w w' := by
  have hW : w.heap.size + 2 ≤ (bothWo i u f b m s raw w).heap.size := by simp
  have h0 : Below (w.heap.size + 2) (bothWo i u f b m s raw w) (bothWo i u f b m s raw w) := Below.refl _ _
  have hp := fun w => both_pack m s u w
  have hq := fun w => rtext_pack m s w
  have hpp : packP m s u = ⟨#[]⟩ := by unfold packP; rw [hin]; rfl
  have hpt : packT m s = ⟨#[]⟩ := by unfold packT; rw [hin]; rfl
  rw [hpp, hin] at hp
  rw [hpt] at hq
  simp only [hin] at hq
  have hr := widthT_range m
  have hwr : IntKind.i64.wrap (widthT m + 8) = widthT m + 8 := by rw [IntKind.wrap_i64]; omega
  have hU1 : (raw.size : Int) = widthT m + 8 → unpackT m (raw.extract 0 (widthT m).toNat) = unFirst m raw := fun h => by unfold unFirst; rw [if_pos h]
  have hU2 : (raw.size : Int) = widthT m + 8 → num8 (raw.extract (widthT m).toNat raw.size) = unSecond m raw := fun h => by unfold unSecond; rw [if_pos h]
  have hV1 : ¬ (raw.size : Int) = widthT m + 8 → unFirst m raw = ⟨#[]⟩ := fun h => by unfold unFirst; rw [if_neg h]
  have hV2 : ¬ (raw.size : Int) = widthT m + 8 → unSecond m raw = 0 := fun h => by unfold unSecond; rw [if_neg h]
  have hw1 := fun w => rtext_width m w
  have hw2 := fun w => both_width m w
  have hbu := fun w => both_unpack m raw w
  generalize unFirst m raw = F at *
  generalize unSecond m raw = G at *
  generalize widthT m = t at *
  have HBU := Lib.hid hbu
  have HP := Lib.hid hp
  have HQ := Lib.hid hq
  have HW1 := Lib.hid hw1
  have HW2 := Lib.hid hw2
  have HR := Lib.hid hr
  have HU1 := Lib.hid hU1
  have HU2 := Lib.hid hU2
  have HV1 := Lib.hid hV1
  have HV2 := Lib.hid hV2
  clear hp hq hpp hpt hr hU1 hU2 hV1 hV2 hw1 hw2 hin hbu
  go_enter Try.func29, Try.ntmps29
  go_wp2_with fail
  refine (call_in (HP.out _) hW h0).mono ?_
  rintro e w1 ⟨rfl, h1⟩
  clear h0
  obtain ⟨c1, c4, c5, c6, d0, d1⟩ := bothWo_cells h1
  go_wp2_with fail
  refine (call_in (HQ.out _) hW h1).mono ?_
  rintro e w2 ⟨rfl, h2⟩
  clear c1 c4 c5 c6 d0 d1 h1
  obtain ⟨c1, c4, c5, c6, d0, d1⟩ := bothWo_cells h2
  go_wp2_with fail
  refine (call_in (HW1.out _) hW h2).mono ?_
  rintro e w4 ⟨rfl, h4⟩
  clear c1 c4 c5 c6 d0 d1 h2
  obtain ⟨c1, c4, c5, c6, d0, d1⟩ := bothWo_cells h4
  go_wp2_with fail
  refine (call_in (HW2.out _) hW h4).mono ?_
  rintro e w5 ⟨rfl, h5⟩
  clear c1 c4 c5 c6 d0 d1 h4
  obtain ⟨c1, c4, c5, c6, d0, d1⟩ := bothWo_cells h5
  go_wp2_with fail
  refine (call_in (both_align _ _) hW h5).mono ?_
  rintro e w6 ⟨rfl, h6⟩
  clear c1 c4 c5 c6 d0 d1 h5
  obtain ⟨c1, c4, c5, c6, d0, d1⟩ := bothWo_cells h6
  go_wp2_with fail
  refine (call_in (HBU.out _) hW h6).mono ?_
  rintro e w7 ⟨rfl, h7⟩
  clear c1 c4 c5 c6 d0 d1 h6
  obtain ⟨c4, c6, d0, d1⟩ := endWo_cells (t := F) (k := G) h7 (Below.refl _ _)
  by_cases hs : (raw.size : Int) = t + 8
  · have e1 := HU1.out hs
    have e2 := HU2.out hs
    have p0 : (0 ≤ t) = True := eq_true (by have := HR.out; omega)
    have p1 : (t ≤ (raw.size : Int)) = True := eq_true (by have := HR.out; omega)
    have q1 : (((raw.size : Nat) : Int) != t + 8) = false := bne_eq_false_iff_eq.mpr hs
    clear hs
    go_wp2_with fail
    have hW7 : w7.heap.size + 1 ≤ (w7.alloc (twoObj F G)).heap.size := by simp
    have h8 : Below (w7.heap.size + 1) (w7.alloc (twoObj F G)) (w7.alloc (twoObj F G)) := Below.refl _ _
    have HE := Lib.hid (fun (x : World) (hx : Below (w7.heap.size + 1) (w7.alloc (twoObj F G)) x) => endWo_cells (t := F) (k := G) h7 hx)
    have HF := Lib.hid (fun (x : World) (hx : Below (w7.heap.size + 1) (w7.alloc (twoObj F G)) x) => endWo_fin (t := F) (k := G) h7 hx)
    clear h7 HP HQ HW1 HW2 HBU HV1 HV2 HR HU1 HU2
    go_region_held3 (fun x => Below (w7.heap.size + 1) (w7.alloc (twoObj F G)) x ∧ x.cell? ⟨w.heap.size, 4, none⟩ = some (.int .i64 m) ∧ x.cell? ⟨w.heap.size, 6, none⟩ = some (.string raw) ∧
      x.cell? ⟨w7.heap.size, 0, none⟩ = some (.string F) ∧ x.cell? ⟨w7.heap.size, 1, none⟩ = some (.int .u64 G))
      ((refine (fun h => ⟨h, HE.out _ h⟩) ?_; repeat (first | assumption | apply Below.drew)))
      (first | (go_at_call 53; refine (call_in (rtext_unpack _ _ _) hW7 (by repeat (first | assumption | apply Below.drew))).mono ?_; rintro e wa ⟨rfl, ha⟩) | (go_at_call 37; refine (call_in (ref_number _ _) hW7 (by repeat (first | assumption | apply Below.drew))).mono ?_; rintro e wb ⟨rfl, hb⟩))
    all_goals
      go_wp2_with fail
      go_ret
      exact ⟨by simp, HF.out _ (by repeat (first | assumption | apply Below.drew))⟩
  · have e1 := HV1.out hs
    have e2 := HV2.out hs
    have q1 : (((raw.size : Nat) : Int) != t + 8) = true := bne_iff_ne.mpr hs
    clear hs
    subst e1 e2
    go_wp2_with fail
    go_ret
    exact ⟨rfl, endWo_fin h7 (Below.refl _ _)⟩
theorem both_call (i u : Int) (f : Nat) (b : Bool) (m : Int) (s raw : ByteArray) (w : World) (u0 : 0 ≤ u) (u1 : u < 18446744073709551616) :
    Calls Try.prog 29 #[.agg #[.int .i64 i, .int .u64 u, .float .f64 f, .bool b, .int .i64 m, .string s, .string raw]] w fun e w' => e = .returned (.bool true) ∧ Below w.heap.size w w' := by
  cases h : textIn m s with
  | true => exact both_call_t i u f b m s raw w u0 u1 h
  | false => exact both_call_f i u f b m s raw w u0 u1 h
end Go.Proofs.Ythbcnieekpjhcaa.Leaf
