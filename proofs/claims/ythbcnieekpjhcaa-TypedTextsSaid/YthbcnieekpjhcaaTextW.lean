/- The law of one ask: Text and Bool (function 28). -/
import Derived.Test.YthbcnieekpjhcaaBothU
namespace Go.Proofs.Ythbcnieekpjhcaa.Leaf
open Go.RowKit Go.Proofs.YthbcnieekpjhcaaW.PrintWords Go.Proofs.YthbcnieekpjhcaaW.PrintLast Go.Proofs.YthbcnieekpjhcaaW.PrintMore
set_option linter.unusedVariables false
set_option linter.unusedSimpArgs false

/-- the ask, and Text{Most: a.Most} beside it -/
abbrev textWo (i u : Int) (f : Nat) (b : Bool) (m : Int) (s raw : ByteArray) (w : World) : World := (w.alloc (askObj i u f b m s raw)).alloc (txtObj m)
theorem textWo_cells {i u : Int} {f : Nat} {b : Bool} {m : Int} {s raw : ByteArray} {w x : World} (h : Below (w.heap.size + 2) (textWo i u f b m s raw w) x) :
    x.cell? ⟨w.heap.size, 3, none⟩ = some (.bool b) ∧
    x.cell? ⟨w.heap.size, 4, none⟩ = some (.int .i64 m) ∧ x.cell? ⟨w.heap.size, 5, none⟩ = some (.string s) ∧ x.cell? ⟨w.heap.size, 6, none⟩ = some (.string raw) ∧ x.cell? ⟨w.heap.size + 1, 0, none⟩ = some (.int .i64 m) := by
  have e : ∀ o, x.cell? ⟨w.heap.size, o, none⟩ = (textWo i u f b m s raw w).cell? ⟨w.heap.size, o, none⟩ := fun o => h.cell (p := ⟨w.heap.size, o, none⟩) (by simp)
  have e' : x.cell? ⟨w.heap.size + 1, 0, none⟩ = (textWo i u f b m s raw w).cell? ⟨w.heap.size + 1, 0, none⟩ := h.cell (p := ⟨w.heap.size + 1, 0, none⟩) (by simp)
  simp only [e, e', askObj, textWo, txtObj]
  refine ⟨?_, ?_, ?_, ?_, ?_⟩ <;> go_simp
theorem textWo_fin {i u : Int} {f : Nat} {b : Bool} {m : Int} {s raw : ByteArray} {w x : World} (h : Below (w.heap.size + 2) (textWo i u f b m s raw w) x) : Below w.heap.size w x :=
  (((Below.refl w.heap.size w).alloc (Nat.le_refl _) _).alloc (by simp) _).trans (h.mono (by omega))

set_option maxRecDepth 100000 in
set_option maxHeartbeats 8000000 in
theorem text_call (i u : Int) (f : Nat) (b : Bool) (m : Int) (s raw : ByteArray) (w : World) :
    Calls Try.prog 28 #[.agg #[.int .i64 i, .int .u64 u, .float .f64 f, .bool b, .int .i64 m, .string s, .string raw]] w fun e w' => e = .returned (.bool true) ∧ Below w.heap.size w w' := by
  have hW : w.heap.size + 2 ≤ (textWo i u f b m s raw w).heap.size := by simp
  have h0 : Below (w.heap.size + 2) (textWo i u f b m s raw w) (textWo i u f b m s raw w) := Below.refl _ _
  go_enter Try.func28, Try.ntmps28
  go_wp2_with fail
  refine (call_in (text_pack _ _ _) hW h0).mono ?_
  rintro e w1 ⟨rfl, h1⟩
  clear h0
  obtain ⟨c3, c4, c5, c6, d0⟩ := textWo_cells h1
  go_wp2_with fail
  refine (call_in (rtext_pack _ _ _) hW h1).mono ?_
  rintro e w2 ⟨rfl, h2⟩
  clear c3 c4 c5 c6 d0 h1
  obtain ⟨c3, c4, c5, c6, d0⟩ := textWo_cells h2
  go_wp2_with fail
  refine (call_in (bool_pack _ _) hW h2).mono ?_
  rintro e w3 ⟨rfl, h3⟩
  clear c3 c4 c5 c6 d0 h2
  obtain ⟨c3, c4, c5, c6, d0⟩ := textWo_cells h3
  go_wp2_with fail
  go_region_held3 (fun x => Below (w.heap.size + 2) (textWo i u f b m s raw w) x ∧ x.cell? ⟨w.heap.size, 3, none⟩ = some (.bool b) ∧
    x.cell? ⟨w.heap.size, 4, none⟩ = some (.int .i64 m) ∧ x.cell? ⟨w.heap.size, 5, none⟩ = some (.string s) ∧ x.cell? ⟨w.heap.size, 6, none⟩ = some (.string raw) ∧ x.cell? ⟨w.heap.size + 1, 0, none⟩ = some (.int .i64 m))
    ((refine (fun h => ⟨h, textWo_cells h⟩) ?_; repeat (first | assumption | apply Below.drew)))
    (first | (go_at_call 23; refine (call_in (text_width _ _) hW (by repeat (first | assumption | apply Below.drew))).mono ?_; rintro e wa ⟨rfl, ha⟩) | (go_at_call 51; refine (call_in (rtext_width _ _) hW (by repeat (first | assumption | apply Below.drew))).mono ?_; rintro e wb ⟨rfl, hb⟩) | (go_at_call 52; refine (call_in (text_align _ _) hW (by repeat (first | assumption | apply Below.drew))).mono ?_; rintro e wc ⟨rfl, hc⟩) | (go_at_call 24; refine (call_in (text_unpack _ _ _) hW (by repeat (first | assumption | apply Below.drew))).mono ?_; rintro e wd ⟨rfl, hd⟩) | (go_at_call 53; refine (call_in (rtext_unpack _ _ _) hW (by repeat (first | assumption | apply Below.drew))).mono ?_; rintro e we ⟨rfl, he⟩))
  rename_i hh
  clear hh h3 ha hb hc hd c3 c4 c5 c6 d0
  obtain ⟨c3, c4, c5, c6, d0⟩ := textWo_cells he
  go_wp2_with fail
  refine (call_in (rbool_pack _ _) hW he).mono ?_
  rintro e w4 ⟨rfl, h4⟩
  clear c3 c4 c5 c6 d0 he
  go_wp2_with fail
  refine (call_in (bool_width _) hW h4).mono ?_
  rintro e w5 ⟨rfl, h5⟩
  clear h4
  go_wp2_with fail
  refine (call_in (bool_align _) hW h5).mono ?_
  rintro e w6 ⟨rfl, h6⟩
  clear h5
  obtain ⟨c3, c4, c5, c6, d0⟩ := textWo_cells h6
  go_wp2_with fail
  go_region_held3 (fun x => Below (w.heap.size + 2) (textWo i u f b m s raw w) x ∧ x.cell? ⟨w.heap.size, 6, none⟩ = some (.string raw))
    ((refine (fun h => ⟨h, (textWo_cells h).2.2.2.1⟩) ?_; repeat (first | assumption | apply Below.drew)))
    (first | (go_at_call 20; refine (call_in (bool_unpack _ _) hW (by repeat (first | assumption | apply Below.drew))).mono ?_; rintro e wa ⟨rfl, ha⟩) | (go_at_call 57; refine (call_in (rbool_unpack _ _) hW (by repeat (first | assumption | apply Below.drew))).mono ?_; rintro e wb ⟨rfl, hb⟩))
  all_goals
    go_wp2_with fail
    go_ret
    exact ⟨by simp, textWo_fin (by repeat (first | assumption | apply Below.drew))⟩
end Go.Proofs.Ythbcnieekpjhcaa.Leaf
