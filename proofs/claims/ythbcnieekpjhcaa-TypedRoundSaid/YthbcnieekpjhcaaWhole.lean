/- TypedWhole's walk: for every list of asks it returns true and writes nothing that was there. -/
import Derived.Test.YthbcnieekpjhcaaCodec
import Derived.Deep.RegionWith
import Derived.WalkSpells
namespace Go.Proofs.Ythbcnieekpjhcaa.Leaf
open Go.RowKit Go.Proofs.YthbcnieekpjhcaaW.PrintWords Go.Proofs.YthbcnieekpjhcaaW.PrintLast Go.Proofs.YthbcnieekpjhcaaW.PrintMore
set_option linter.unusedVariables false
set_option linter.unusedSimpArgs false

/-- a callee that writes nothing old, called in a world that is as W was below n -/
theorem call_in {f : Nat} {args : Array Value} {r : Ending} {n : Nat} {W x : World} (c : Calls Try.prog f args x fun e w' => e = r ∧ Below x.heap.size x w') (hW : n ≤ W.heap.size) (hx : Below n W x) :
    Calls Try.prog f args x fun e w' => e = r ∧ Below n W w' :=
  c.mono fun _ _ h => ⟨h.1, hx.trans (h.2.mono (Nat.le_trans hW hx.size))⟩

/-- an Ask as it lies in a variable of the call's own -/
abbrev askObj (i u : Int) (f : Nat) (b : Bool) (m : Int) (s raw : ByteArray) : Obj := .cells #[.int .i64 i, .int .u64 u, .float .f64 f, .bool b, .int .i64 m, .string s, .string raw] 27

theorem ask_size (i u : Int) (f : Nat) (b : Bool) (m : Int) (s raw : ByteArray) (w : World) : w.heap.size + 1 ≤ (w.alloc (askObj i u f b m s raw)).heap.size := by simp

theorem ask_cells {i u : Int} {f : Nat} {b : Bool} {m : Int} {s raw : ByteArray} {w x : World} (h : Below (w.heap.size + 1) (w.alloc (askObj i u f b m s raw)) x) :
    x.cell? ⟨w.heap.size, 0, none⟩ = some (.int .i64 i) ∧ x.cell? ⟨w.heap.size, 1, none⟩ = some (.int .u64 u) ∧ x.cell? ⟨w.heap.size, 2, none⟩ = some (.float .f64 f) ∧ x.cell? ⟨w.heap.size, 3, none⟩ = some (.bool b) ∧
    x.cell? ⟨w.heap.size, 4, none⟩ = some (.int .i64 m) ∧ x.cell? ⟨w.heap.size, 5, none⟩ = some (.string s) ∧ x.cell? ⟨w.heap.size, 6, none⟩ = some (.string raw) := by
  have e : ∀ o, x.cell? ⟨w.heap.size, o, none⟩ = (w.alloc (askObj i u f b m s raw)).cell? ⟨w.heap.size, o, none⟩ := fun o => h.cell (p := ⟨w.heap.size, o, none⟩) (by simp)
  simp only [e, askObj]
  refine ⟨?_, ?_, ?_, ?_, ?_, ?_, ?_⟩ <;> go_simp

set_option maxRecDepth 100000 in
set_option maxHeartbeats 4000000 in
theorem whole_call (i u : Int) (f : Nat) (b : Bool) (m : Int) (s raw : ByteArray) (w : World)
    (i0 : -9223372036854775808 ≤ i) (i1 : i ≤ 9223372036854775807) (u0 : 0 ≤ u) (u1 : u < 18446744073709551616) :
    Calls Try.prog 8 #[.agg #[.int .i64 i, .int .u64 u, .float .f64 f, .bool b, .int .i64 m, .string s, .string raw]] w fun e w' => e = .returned (.bool true) ∧ Below w.heap.size w w' := by
  have hW := ask_size i u f b m s raw w
  have h0 : Below (w.heap.size + 1) (w.alloc (askObj i u f b m s raw)) (w.alloc (askObj i u f b m s raw)) := Below.refl _ _
  have hfin : ∀ x, Below (w.heap.size + 1) (w.alloc (askObj i u f b m s raw)) x → Below w.heap.size w x := fun x h => below_box0.trans (h.mono (by omega))
  have Hfin := Lib.hid hfin
  clear hfin
  go_enter Try.func8, Try.ntmps8
  go_wp2_with fail
  refine (call_in (int_pack _ _ i0 i1) hW h0).mono ?_
  rintro e w1 ⟨rfl, h1⟩
  clear h0
  obtain ⟨c0, c1, -, -, -, -, -⟩ := ask_cells h1
  go_wp2_with fail
  refine (call_in (uint_pack _ _) hW h1).mono ?_
  rintro e w2 ⟨rfl, h2⟩
  clear c0 c1 h1
  obtain ⟨c0, c1, -, -, -, -, -⟩ := ask_cells h2
  go_wp2_with fail
  refine (call_in (ref_pack _ _ i0 i1) hW h2).mono ?_
  rintro e w3 ⟨rfl, h3⟩
  clear c0 c1 h2
  obtain ⟨c0, c1, -, -, -, -, -⟩ := ask_cells h3
  go_wp2_with fail
  refine (call_in (ref_bytes _ _ u0 u1) hW h3).mono ?_
  rintro e w4 ⟨rfl, h4⟩
  clear c0 c1 h3
  go_wp2_with fail
  refine (call_in (int_width _) hW h4).mono ?_
  rintro e w5 ⟨rfl, h5⟩
  clear h4
  go_wp2_with fail
  refine (call_in (int_align _) hW h5).mono ?_
  rintro e w6 ⟨rfl, h6⟩
  clear h5
  go_wp2_with fail
  refine (call_in (uint_width _) hW h6).mono ?_
  rintro e w7 ⟨rfl, h7⟩
  clear h6
  go_wp2_with fail
  refine (call_in (uint_align _) hW h7).mono ?_
  rintro e w8 ⟨rfl, h8⟩
  clear h7
  obtain ⟨-, -, -, -, -, -, c6⟩ := ask_cells h8
  go_wp2_with fail
  go_region_held3 (fun x => Below (w.heap.size + 1) (w.alloc (askObj i u f b m s raw)) x ∧ x.cell? ⟨w.heap.size, 6, none⟩ = some (.string raw))
    ((refine (fun h => ⟨h, (ask_cells h).2.2.2.2.2.2⟩) ?_; repeat (first | assumption | apply Below.drew)))
    (first | (go_at_call 18; refine (call_in (int_unpack _ _) hW (by repeat (first | assumption | apply Below.drew))).mono ?_; rintro e wa ⟨rfl, ha⟩) | (go_at_call 36; refine (call_in (ref_unpack _ _) hW (by repeat (first | assumption | apply Below.drew))).mono ?_; rintro e wb ⟨rfl, hb⟩) | (go_at_call 19; refine (call_in (uint_unpack _ _) hW (by repeat (first | assumption | apply Below.drew))).mono ?_; rintro e wc ⟨rfl, hc⟩) | (go_at_call 37; refine (call_in (ref_number _ _) hW (by repeat (first | assumption | apply Below.drew))).mono ?_; rintro e wd ⟨rfl, hd⟩))
  all_goals
    go_wp2_with fail
    go_ret
    exact ⟨rfl, Hfin.out _ (by assumption)⟩

end Go.Proofs.Ythbcnieekpjhcaa.Leaf
