/- Both[string, Two[bool, int64]]: Pack, Unpack, Width, walked. -/
import Derived.Test.YthbcnieekpjhcaaRndB
namespace Go.Proofs.Ythbcnieekpjhcaa.Leaf
open Go.RowKit Go.Proofs.YthbcnieekpjhcaaW.PrintWords Go.Proofs.YthbcnieekpjhcaaW.PrintLast Go.Proofs.YthbcnieekpjhcaaW.PrintMore
set_option linter.unusedVariables false
set_option linter.unusedSimpArgs false

abbrev sbV (m : Int) : Value := .agg #[.iface 50 (.agg #[.int .i64 m]), .iface 59 biV]
abbrev sbObj (m : Int) : Obj := .cells #[.iface 50 (.agg #[.int .i64 m]), .iface 59 biV] 65
abbrev tsV (s : ByteArray) (b : Bool) (i : Int) : Value := .agg #[.string s, .bool b, .int .i64 i]
abbrev tsObj (s : ByteArray) (b : Bool) (i : Int) : Obj := .cells #[.string s, .bool b, .int .i64 i] 69
theorem q_pack (w : World) : (method 222 59 biV "Pack").run Try.prog w = .ok (79, biV) w := by kernel_rfl
theorem q_unpack (w : World) : (method 222 59 biV "Unpack").run Try.prog w = .ok (80, biV) w := by kernel_rfl
theorem q_width (w : World) : (method 222 59 biV "Width").run Try.prog w = .ok (81, biV) w := by kernel_rfl

abbrev sbW (m : Int) (s : ByteArray) (b : Bool) (i : Int) (w : World) : World := (w.alloc (sbObj m)).alloc (tsObj s b i)
theorem sbW_cells {m : Int} {s : ByteArray} {b : Bool} {i : Int} {w x : World} (h : Below (w.heap.size + 2) (sbW m s b i w) x) :
    x.cell? ⟨w.heap.size, 0, none⟩ = some (.iface 50 (.agg #[.int .i64 m])) ∧ x.cell? ⟨w.heap.size, 1, none⟩ = some (.iface 59 biV) ∧
    x.cell? ⟨w.heap.size + 1, 0, none⟩ = some (.string s) ∧ x.cell? ⟨w.heap.size + 1, 1, none⟩ = some (.bool b) ∧ x.cell? ⟨w.heap.size + 1, 2, none⟩ = some (.int .i64 i) ∧
    x.frozen? ⟨w.heap.size + 1, 0, none⟩ = false ∧ x.frozen? ⟨w.heap.size + 1, 1, none⟩ = false ∧ x.frozen? ⟨w.heap.size + 1, 2, none⟩ = false := by
  have e : ∀ o, x.cell? ⟨w.heap.size, o, none⟩ = (sbW m s b i w).cell? ⟨w.heap.size, o, none⟩ := fun o => h.cell (p := ⟨w.heap.size, o, none⟩) (by simp)
  have e' : ∀ o, x.cell? ⟨w.heap.size + 1, o, none⟩ = (sbW m s b i w).cell? ⟨w.heap.size + 1, o, none⟩ := fun o => h.cell (p := ⟨w.heap.size + 1, o, none⟩) (by simp)
  have f' : ∀ o, x.frozen? ⟨w.heap.size + 1, o, none⟩ = (sbW m s b i w).frozen? ⟨w.heap.size + 1, o, none⟩ := fun o => h.frozen (p := ⟨w.heap.size + 1, o, none⟩) (by simp)
  simp only [e, e', f', sbW, sbObj, tsObj]
  refine ⟨?_, ?_, ?_, ?_, ?_, ?_, ?_, ?_⟩ <;> go_simp
theorem sbW_fin {m : Int} {s : ByteArray} {b : Bool} {i : Int} {w x : World} (h : Below (w.heap.size + 2) (sbW m s b i w) x) : Below w.heap.size w x :=
  (((Below.refl w.heap.size w).alloc (Nat.le_refl _) (sbObj m)).alloc (by simp) (tsObj s b i)).trans (h.mono (by omega))

def packS (m : Int) (s : ByteArray) (b : Bool) (i : Int) : ByteArray := if textIn m s = true then packT m s ++ (packB b ++ be8 (i + 9223372036854775808)) else ⟨#[]⟩

set_option maxRecDepth 100000 in
set_option maxHeartbeats 4000000 in
theorem sb_pack (m : Int) (s : ByteArray) (b : Bool) (i : Int) (w : World) (i0 : -9223372036854775808 ≤ i) (i1 : i ≤ 9223372036854775807) :
    Calls Try.prog 25 #[sbV m, tsV s b i] w fun e w' => e = .returned (.tuple #[.string (packS m s b i), .bool (textIn m s)]) ∧ Below w.heap.size w w' := by
  have h0 : Below (w.heap.size + 2) (sbW m s b i w) (sbW m s b i w) := Below.refl _ _
  have hW : w.heap.size + 2 ≤ (sbW m s b i w).heap.size := by simp
  have m1 := m_tpack
  have m2 := q_pack
  have hc := fun w => text_pack m s w
  have hd := fun w => bi_pack b i w i0 i1
  cases hin : textIn m s with
  | true =>
    have hsz : (packT m s).size ≤ 128 := by unfold packT; rw [if_pos hin]; exact textOf_size m s hin
    have hp : packS m s b i = packT m s ++ (packB b ++ be8 (i + 9223372036854775808)) := by unfold packS; rw [if_pos hin]
    rw [hp]
    simp only [hin] at hc
    clear hp
    have hY : (packB b ++ be8 (i + 9223372036854775808)).size = 9 := by rw [ByteArray.size_append, be8_size, packB_size]
    generalize packT m s = t at *
    generalize packB b ++ be8 (i + 9223372036854775808) = Y at *
    have c1 : (t.size + Y.size ≤ 9223372036854775807) = True := eq_true (by omega)
    have c2 : (9223372036854775807 < t.size + Y.size) = False := eq_false (by omega)
    have HC := Lib.hid hc
    have HD := Lib.hid hd
    clear hc hd hin hsz hY i0 i1
    go_enter Try.func25, Try.ntmps25
    go_wp2_with fail
    refine (call_in (HC.out _) hW h0).mono ?_
    rintro e w1 ⟨rfl, h1⟩
    clear h0
    obtain ⟨d0, d1, d2, d3, d4, d5, d6, d7⟩ := sbW_cells h1
    go_wp2_with fail
    refine (call_in (HD.out _) hW h1).mono ?_
    rintro e w2 ⟨rfl, h2⟩
    clear h1
    go_wp2_with fail
    go_ret2
    exact ⟨rfl, sbW_fin h2⟩
  | false =>
    have hp : packS m s b i = ⟨#[]⟩ := by unfold packS; rw [hin]; rfl
    rw [hp]
    have ht : packT m s = ⟨#[]⟩ := by unfold packT; rw [hin]; rfl
    rw [ht] at hc
    simp only [hin] at hc
    clear hp ht
    have HC := Lib.hid hc
    clear hc hd hin i0 i1
    go_enter Try.func25, Try.ntmps25
    go_wp2_with fail
    refine (call_in (HC.out _) hW h0).mono ?_
    rintro e w1 ⟨rfl, h1⟩
    clear h0
    go_wp2_with fail
    go_ret2
    exact ⟨rfl, sbW_fin h1⟩

abbrev sbO (m : Int) (w : World) : World := w.alloc (sbObj m)
theorem sbO_cells {m : Int} {w x : World} (h : Below (w.heap.size + 1) (sbO m w) x) :
    x.cell? ⟨w.heap.size, 0, none⟩ = some (.iface 50 (.agg #[.int .i64 m])) ∧ x.cell? ⟨w.heap.size, 1, none⟩ = some (.iface 59 biV) := by
  have e : ∀ o, x.cell? ⟨w.heap.size, o, none⟩ = (sbO m w).cell? ⟨w.heap.size, o, none⟩ := fun o => h.cell (p := ⟨w.heap.size, o, none⟩) (by simp)
  simp only [e, sbO, sbObj]
  refine ⟨?_, ?_⟩ <;> go_simp
theorem sbO_fin {m : Int} {w x : World} (h : Below (w.heap.size + 1) (sbO m w) x) : Below w.heap.size w x := below_box0.trans (h.mono (by omega))

set_option maxRecDepth 100000 in
set_option maxHeartbeats 4000000 in
theorem sb_width (m : Int) (w : World) : Calls Try.prog 27 #[sbV m] w fun e w' => e = .returned (.int .i64 (widthT m + 9)) ∧ Below w.heap.size w w' := by
  have h0 : Below (w.heap.size + 1) (sbO m w) (sbO m w) := Below.refl _ _
  have hW : w.heap.size + 1 ≤ (sbO m w).heap.size := by simp
  have m1 := m_twidth
  have m2 := q_width
  have hc := fun w => text_width m w
  have hr := widthT_range m
  have hwr : IntKind.i64.wrap (widthT m + 9) = widthT m + 9 := by rw [IntKind.wrap_i64]; omega
  generalize widthT m = t at *
  have HC := Lib.hid hc
  clear hc hr
  go_enter Try.func27, Try.ntmps27
  go_wp2_with fail
  go_region_held3 (fun x => Below (w.heap.size + 1) (sbO m w) x ∧ x.cell? ⟨w.heap.size, 0, none⟩ = some (.iface 50 (.agg #[.int .i64 m])) ∧ x.cell? ⟨w.heap.size, 1, none⟩ = some (.iface 59 biV))
    ((refine (fun h => ⟨h, sbO_cells h⟩) ?_; repeat (first | assumption | apply Below.drew)))
    (first | (go_at_call 23; refine (call_in (HC.out _) hW (by repeat (first | assumption | apply Below.drew))).mono ?_; rintro e wa ⟨rfl, ha⟩) | (go_at_call 81; refine (call_in (bi_width _) hW (by repeat (first | assumption | apply Below.drew))).mono ?_; rintro e wb ⟨rfl, hb⟩))
  all_goals
    go_wp2_with fail
    go_ret
    exact ⟨rfl, sbO_fin (by repeat (first | assumption | apply Below.drew))⟩

theorem sb_sets {w x : World} {a b c : Value} (h : Below w.heap.size w x) : Below w.heap.size w (((x.setCell ⟨w.heap.size + 1, 0, none⟩ a).setCell ⟨w.heap.size + 1, 1, none⟩ b).setCell ⟨w.heap.size + 1, 2, none⟩ c) :=
  ((h.setCell (by simp) _).setCell (by simp) _).setCell (by simp) _

set_option maxRecDepth 100000 in
set_option maxHeartbeats 8000000 in
/-- s is as long as what Pack answers -/
theorem sb_unpack (m : Int) (s X Y : ByteArray) (w : World) (hw : 0 ≤ widthT m ∧ widthT m ≤ 128) (hs : s = X ++ Y) (hX : (X.size : Int) = widthT m) (hY : Y.size = 9) :
    Calls Try.prog 26 #[sbV m, .string s] w fun e w' =>
    e = .returned (tsV (unpackT m X) (unpackB (Y.extract 0 1)) (int8 (Y.extract 1 Y.size))) ∧ Below w.heap.size w w' := by
  have h0 : Below (w.heap.size + 2) (sbW m ⟨#[]⟩ false 0 w) (sbW m ⟨#[]⟩ false 0 w) := Below.refl _ _
  have hW : w.heap.size + 2 ≤ (sbW m ⟨#[]⟩ false 0 w).heap.size := by simp
  have m1 := m_twidth
  have m2 := m_tunpack
  have m3 := q_unpack
  have hc := fun w => text_width m w
  have hb := fun w => sb_width m w
  have ha := fun w => text_unpack m X w
  have hd := fun w => bi_unpack Y w hY
  have hsz : s.size = X.size + 9 := by rw [hs, ByteArray.size_append, hY]
  have eX : s.extract 0 (widthT m).toNat = X := by
    have : (widthT m).toNat = X.size := by omega
    rw [this, hs]; exact ByteArray.extract_append_eq_left rfl
  have eY : s.extract (widthT m).toNat s.size = Y := by
    have : (widthT m).toNat = X.size := by omega
    rw [this, hs, ByteArray.size_append]; exact ByteArray.extract_append_eq_right rfl rfl
  generalize widthT m = t at *
  have p0 : (0 ≤ t) = True := eq_true (by omega)
  have p1 : (t ≤ (s.size : Int)) = True := eq_true (by omega)
  have q1 : (((s.size : Nat) : Int) != t + 9) = false := bne_eq_false_iff_eq.mpr (by omega)
  generalize unpackT m X = A at *
  generalize unpackB (Y.extract 0 1) = B at *
  generalize int8 (Y.extract 1 Y.size) = C at *
  have HC := Lib.hid hc
  have HB := Lib.hid hb
  rw [← eX] at ha
  rw [← eY] at hd
  have HA := Lib.hid ha
  have HD := Lib.hid hd
  clear hc hb ha hd hs hX hY hsz eX eY hw
  go_enter Try.func26, Try.ntmps26
  go_wp2_with fail
  refine (call_in (HB.out _) hW h0).mono ?_
  rintro e w1 ⟨rfl, h1⟩
  clear h0
  obtain ⟨c0, c1, c2, c3, c4, f0, f1, f2⟩ := sbW_cells h1
  go_wp2_with fail
  refine (call_in (HC.out _) hW h1).mono ?_
  rintro e w2 ⟨rfl, h2⟩
  clear h1 c0 c1 c2 c3 c4 f0 f1 f2
  obtain ⟨c0, c1, c2, c3, c4, f0, f1, f2⟩ := sbW_cells h2
  go_wp2_with fail
  go_region_with (first | (go_at_call 24; refine (call_in (HA.out _) hW (by repeat (first | assumption | apply Below.drew))).mono ?_; rintro e wa ⟨rfl, ha⟩; have ha' := ha; obtain ⟨c0, c1, c2, c3, c4, f0, f1, f2⟩ := sbW_cells ha') | (go_at_call 80; refine (call_in (HD.out _) hW (by repeat (first | assumption | apply Below.drew))).mono ?_; rintro e wb ⟨rfl, hb⟩; have hb' := hb; obtain ⟨c0, c1, c2, c3, c4, f0, f1, f2⟩ := sbW_cells hb'))
  all_goals
    clear m1 m2 m3 HC HB HA HD
    go_wp2_with fail
    refine bodyPost_ret (v := tsV A B C) (by simp [results, Try.results26, go_sem, c2, c3, c4, f0, f1, f2]) rfl ⟨rfl, ?_⟩
    exact sb_sets (sbW_fin (by repeat (first | assumption | apply Below.drew)))
end Go.Proofs.Ythbcnieekpjhcaa.Leaf
