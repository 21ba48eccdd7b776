/- The codec of pairs (a text and a number), walked. -/
import Derived.Test.YthbcnieekpjhcaaBool
import Derived.BigQuiet
namespace Go.Proofs.Ythbcnieekpjhcaa.Leaf
open Go.RowKit Go.Proofs.YthbcnieekpjhcaaW.PrintWords Go.Proofs.YthbcnieekpjhcaaW.PrintLast Go.Proofs.YthbcnieekpjhcaaW.PrintMore
set_option linter.unusedVariables false
set_option linter.unusedSimpArgs false

/-- The codec Both[string, uint64]{Text{m}, Uint{}} as a value. -/
abbrev bothV (m : Int) : Value := .agg #[.iface 50 (.agg #[.int .i64 m]), .iface 37 (.agg #[])]
abbrev twoV (s : ByteArray) (u : Int) : Value := .agg #[.string s, .int .u64 u]
abbrev bothObj (m : Int) : Obj := .cells #[.iface 50 (.agg #[.int .i64 m]), .iface 37 (.agg #[])] 99

theorem both_align (m : Int) (w : World) : Calls Try.prog 60 #[bothV m] w fun e w' => e = .returned (.int .i64 1) ∧ Below w.heap.size w w' := by
  go_enter Try.func60, Try.ntmps60
  go_wp2_with fail
  go_ret
  exact ⟨rfl, below_box0⟩
theorem m_tpack (m : Int) (w : World) : (method 222 50 (.agg #[.int .i64 m]) "Pack").run Try.prog w = .ok (22, .agg #[.int .i64 m]) w := by kernel_rfl
theorem m_tunpack (m : Int) (w : World) : (method 222 50 (.agg #[.int .i64 m]) "Unpack").run Try.prog w = .ok (24, .agg #[.int .i64 m]) w := by kernel_rfl
theorem m_twidth (m : Int) (w : World) : (method 222 50 (.agg #[.int .i64 m]) "Width").run Try.prog w = .ok (23, .agg #[.int .i64 m]) w := by kernel_rfl
theorem m_upack (w : World) : (method 222 37 (.agg #[]) "Pack").run Try.prog w = .ok (12, .agg #[]) w := by kernel_rfl
theorem m_uunpack (w : World) : (method 222 37 (.agg #[]) "Unpack").run Try.prog w = .ok (19, .agg #[]) w := by kernel_rfl
theorem m_uwidth (w : World) : (method 222 37 (.agg #[]) "Width").run Try.prog w = .ok (34, .agg #[]) w := by kernel_rfl

theorem both_size (m : Int) (w : World) : w.heap.size + 1 ≤ (w.alloc (bothObj m)).heap.size := by simp
theorem both_cells {m : Int} {w x : World} (h : Below (w.heap.size + 1) (w.alloc (bothObj m)) x) :
    x.cell? ⟨w.heap.size, 0, none⟩ = some (.iface 50 (.agg #[.int .i64 m])) ∧ x.cell? ⟨w.heap.size, 1, none⟩ = some (.iface 37 (.agg #[])) := by
  have e : ∀ o, x.cell? ⟨w.heap.size, o, none⟩ = (w.alloc (bothObj m)).cell? ⟨w.heap.size, o, none⟩ := fun o => h.cell (p := ⟨w.heap.size, o, none⟩) (by simp)
  simp only [e, bothObj]
  refine ⟨?_, ?_⟩ <;> go_simp
abbrev twoObj (s : ByteArray) (u : Int) : Obj := .cells #[.string s, .int .u64 u] 102
/-- the boxes of Pack's two parameters -/
abbrev packW (m : Int) (s : ByteArray) (u : Int) (w : World) : World := (w.alloc (bothObj m)).alloc (twoObj s u)
theorem packW_cells {m : Int} {s : ByteArray} {u : Int} {w x : World} (h : Below (w.heap.size + 2) (packW m s u w) x) :
    x.cell? ⟨w.heap.size, 0, none⟩ = some (.iface 50 (.agg #[.int .i64 m])) ∧ x.cell? ⟨w.heap.size, 1, none⟩ = some (.iface 37 (.agg #[])) ∧
    x.cell? ⟨w.heap.size + 1, 0, none⟩ = some (.string s) ∧ x.cell? ⟨w.heap.size + 1, 1, none⟩ = some (.int .u64 u) := by
  have e : ∀ o, x.cell? ⟨w.heap.size, o, none⟩ = (packW m s u w).cell? ⟨w.heap.size, o, none⟩ := fun o => h.cell (p := ⟨w.heap.size, o, none⟩) (by simp)
  have e' : ∀ o, x.cell? ⟨w.heap.size + 1, o, none⟩ = (packW m s u w).cell? ⟨w.heap.size + 1, o, none⟩ := fun o => h.cell (p := ⟨w.heap.size + 1, o, none⟩) (by simp)
  simp only [e, e', packW, bothObj, twoObj]
  refine ⟨?_, ?_, ?_, ?_⟩ <;> go_simp
theorem packW_fin {m : Int} {s : ByteArray} {u : Int} {w x : World} (h : Below (w.heap.size + 2) (packW m s u w) x) : Below w.heap.size w x :=
  (((Below.refl w.heap.size w).alloc (Nat.le_refl _) (bothObj m)).alloc (by simp) (twoObj s u)).trans (h.mono (by omega))

theorem be8_size (u : Int) : (be8 u).size = 8 := by unfold be8; rw [strOfNums_size]; rfl
theorem textOf_size (m : Int) (s : ByteArray) (h : textIn m s = true) : (textOf m s).size ≤ 128 := by
  unfold textIn at h
  simp only [Bool.and_eq_true, decide_eq_true_eq] at h
  unfold textOf
  rw [strOfNums_size]
  simp only [List.length_append, List.length_replicate, List.length_cons, List.length_nil, b2l_length]
  omega

def packP (m : Int) (s : ByteArray) (u : Int) : ByteArray := if textIn m s = true then packT m s ++ be8 u else ⟨#[]⟩

set_option maxRecDepth 100000 in
theorem both_pack (m : Int) (s : ByteArray) (u : Int) (w : World) : Calls Try.prog 58 #[bothV m, twoV s u] w fun e w' => e = .returned (.tuple #[.string (packP m s u), .bool (textIn m s)]) ∧ Below w.heap.size w w' := by
  have h0 : Below (w.heap.size + 2) (packW m s u w) (packW m s u w) := Below.refl _ _
  have hW : w.heap.size + 2 ≤ (packW m s u w).heap.size := by simp
  have m1 := m_tpack
  have m2 := m_upack
  have hc := fun w => text_pack m s w
  cases hin : textIn m s with
  | true =>
    have hsz : (packT m s).size ≤ 128 := by unfold packT; rw [if_pos hin]; exact textOf_size m s hin
    have hp : packP m s u = packT m s ++ be8 u := by unfold packP; rw [if_pos hin]
    rw [hp]
    simp only [hin] at hc
    clear hp
    generalize packT m s = t at *
    have h8 := be8_size u
    have c1 : (t.size + (be8 u).size ≤ 9223372036854775807) = True := eq_true (by omega)
    have c2 : (9223372036854775807 < t.size + (be8 u).size) = False := eq_false (by omega)
    have HC := Lib.hid hc
    clear hc hin hsz h8
    go_enter Try.func58, Try.ntmps58
    go_wp2_with fail
    refine (call_in (HC.out _) hW h0).mono ?_
    rintro e w1 ⟨rfl, h1⟩
    clear h0
    obtain ⟨d0, d1, d2, d3⟩ := packW_cells h1
    go_wp2_with fail
    refine (call_in (uint_pack _ _) hW h1).mono ?_
    rintro e w2 ⟨rfl, h2⟩
    clear h1
    go_wp2_with fail
    go_ret2
    exact ⟨rfl, packW_fin h2⟩
  | false =>
    have hp : packP m s u = ⟨#[]⟩ := by unfold packP; rw [hin]; rfl
    rw [hp]
    have ht : packT m s = ⟨#[]⟩ := by unfold packT; rw [hin]; rfl
    rw [ht] at hc
    simp only [hin] at hc
    clear hp ht
    have HC := Lib.hid hc
    clear hc hin
    go_enter Try.func58, Try.ntmps58
    go_wp2_with fail
    refine (call_in (HC.out _) hW h0).mono ?_
    rintro e w1 ⟨rfl, h1⟩
    clear h0
    go_wp2_with fail
    go_ret2
    exact ⟨rfl, packW_fin h1⟩
end Go.Proofs.Ythbcnieekpjhcaa.Leaf
