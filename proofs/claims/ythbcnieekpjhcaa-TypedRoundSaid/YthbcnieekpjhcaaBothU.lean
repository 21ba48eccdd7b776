/- Both.Unpack, walked. -/
import Derived.Test.YthbcnieekpjhcaaBothW
namespace Go.Proofs.Ythbcnieekpjhcaa.Leaf
open Go.RowKit Go.Proofs.YthbcnieekpjhcaaW.PrintWords Go.Proofs.YthbcnieekpjhcaaW.PrintLast Go.Proofs.YthbcnieekpjhcaaW.PrintMore
set_option linter.unusedVariables false
set_option linter.unusedSimpArgs false

abbrev unpW (m : Int) (w : World) : World := (w.alloc (bothObj m)).alloc (twoObj ⟨#[]⟩ 0)
theorem unp_cells {m : Int} {w x : World} (h : Below (w.heap.size + 2) (unpW m w) x) :
    x.cell? ⟨w.heap.size, 0, none⟩ = some (.iface 50 (.agg #[.int .i64 m])) ∧ x.cell? ⟨w.heap.size, 1, none⟩ = some (.iface 37 (.agg #[])) ∧
    x.cell? ⟨w.heap.size + 1, 0, none⟩ = some (.string ⟨#[]⟩) ∧ x.cell? ⟨w.heap.size + 1, 1, none⟩ = some (.int .u64 0) ∧ x.frozen? ⟨w.heap.size + 1, 0, none⟩ = false ∧ x.frozen? ⟨w.heap.size + 1, 1, none⟩ = false := by
  obtain ⟨a, b, c, d⟩ := packW_cells (m := m) (s := ⟨#[]⟩) (u := 0) (w := w) (x := x) h
  refine ⟨a, b, c, d, ?_, ?_⟩
  · rw [h.frozen (p := ⟨w.heap.size + 1, 0, none⟩) (by simp)]; simp only [unpW, twoObj]; go_simp
  · rw [h.frozen (p := ⟨w.heap.size + 1, 1, none⟩) (by simp)]; simp only [unpW, twoObj]; go_simp
theorem unp_fin {m : Int} {w x : World} (h : Below (w.heap.size + 2) (unpW m w) x) : Below w.heap.size w x := packW_fin h

theorem unp_sets {w x : World} {a b : Value} (h : Below w.heap.size w x) : Below w.heap.size w ((x.setCell ⟨w.heap.size + 1, 0, none⟩ a).setCell ⟨w.heap.size + 1, 1, none⟩ b) :=
  (h.setCell (by simp) _).setCell (by simp) _

/-- What Both.Unpack answers. -/
def unFirst (m : Int) (s : ByteArray) : ByteArray := if (s.size : Int) = widthT m + 8 then unpackT m (s.extract 0 (widthT m).toNat) else ⟨#[]⟩
def unSecond (m : Int) (s : ByteArray) : Int := if (s.size : Int) = widthT m + 8 then num8 (s.extract (widthT m).toNat s.size) else 0

set_option maxRecDepth 100000 in
set_option maxHeartbeats 8000000 in
theorem both_unpack (m : Int) (s : ByteArray) (w : World) : Calls Try.prog 61 #[bothV m, .string s] w fun e w' => e = .returned (twoV (unFirst m s) (unSecond m s)) ∧ Below w.heap.size w w' := by
  have h0 : Below (w.heap.size + 2) (unpW m w) (unpW m w) := Below.refl _ _
  have hW : w.heap.size + 2 ≤ (unpW m w).heap.size := by simp
  have hc := fun w => text_width m w
  have hb := fun w => both_width m w
  have hr := widthT_range m
  by_cases hs : (s.size : Int) = widthT m + 8
  · have hu := fun s w => text_unpack m s w
    have e1 : unFirst m s = unpackT m (s.extract 0 (widthT m).toNat) := by unfold unFirst; rw [if_pos hs]
    have e2 : unSecond m s = num8 (s.extract (widthT m).toNat s.size) := by unfold unSecond; rw [if_pos hs]
    rw [e1, e2]
    clear e1 e2
    have m1 := m_twidth
    have m2 := m_tunpack
    have m3 := m_uunpack
    generalize widthT m = t at *
    have p0 : (0 ≤ t) = True := eq_true (by omega)
    have p1 : (t ≤ (s.size : Int)) = True := eq_true (by omega)
    have q1 : (((s.size : Nat) : Int) != t + 8) = false := bne_eq_false_iff_eq.mpr hs
    have HC := Lib.hid hc
    have HB := Lib.hid hb
    clear hc hb hr hs hu
    go_enter Try.func61, Try.ntmps61
    go_wp2_with fail
    refine (call_in (HB.out _) hW h0).mono ?_
    rintro e w1 ⟨rfl, h1⟩
    clear h0
    obtain ⟨c0, c1, c2, c3, f0, f1⟩ := unp_cells h1
    go_wp2_with fail
    refine (call_in (HC.out _) hW h1).mono ?_
    rintro e w2 ⟨rfl, h2⟩
    clear h1 c0 c1 c2 c3 f0 f1
    obtain ⟨c0, c1, c2, c3, f0, f1⟩ := unp_cells h2
    go_wp2_with fail
    go_region_with (first | (go_at_call 24; refine (call_in (text_unpack _ _ _) hW (by repeat (first | assumption | apply Below.drew))).mono ?_; rintro e wa ⟨rfl, ha⟩; have ha' := ha; obtain ⟨c0, c1, c2, c3, f0, f1⟩ := unp_cells ha') | (go_at_call 19; refine (call_in (uint_unpack _ _) hW (by repeat (first | assumption | apply Below.drew))).mono ?_; rintro e wb ⟨rfl, hb⟩; have hb' := hb; obtain ⟨c0, c1, c2, c3, f0, f1⟩ := unp_cells hb'))
    all_goals
      clear m1 m2 m3 HC HB
      go_wp2_with fail
      refine bodyPost_ret (v := twoV (unpackT m (s.extract 0 t.toNat)) (num8 (s.extract t.toNat s.size))) (by simp [results, Try.results61, go_sem, c2, c3, f0, f1]) rfl ⟨rfl, ?_⟩
      exact unp_sets (unp_fin (by repeat (first | assumption | apply Below.drew)))
  · have e1 : unFirst m s = ⟨#[]⟩ := by unfold unFirst; rw [if_neg hs]
    have e2 : unSecond m s = 0 := by unfold unSecond; rw [if_neg hs]
    rw [e1, e2]
    clear e1 e2
    generalize widthT m = t at *
    have q1 : (((s.size : Nat) : Int) != t + 8) = true := bne_iff_ne.mpr hs
    have HC := Lib.hid hc
    have HB := Lib.hid hb
    clear hc hb hr hs
    go_enter Try.func61, Try.ntmps61
    go_wp2_with fail
    refine (call_in (HB.out _) hW h0).mono ?_
    rintro e w1 ⟨rfl, h1⟩
    clear h0
    obtain ⟨c0, c1, c2, c3, f0, f1⟩ := unp_cells h1
    go_wp2_with fail
    refine bodyPost_ret (v := twoV ⟨#[]⟩ 0) (by simp [results, Try.results61, go_sem, c2, c3, f0, f1]) rfl ⟨rfl, ?_⟩
    exact unp_sets (unp_fin h1)
end Go.Proofs.Ythbcnieekpjhcaa.Leaf
