/- A slice of Asks as it lies in memory, for the three laws over lists of asks. -/
import Derived.Test.YthbcnieekpjhcaaCodec
import Derived.Deep.Slices
import Derived.ProofKit
namespace Go.Proofs.Ythbcnieekpjhcaa.Leaf
open Go.RowKit
set_option linter.unusedVariables false

/-- An Ask in memory: seven cells from an address on, each number in its kind's bounds. -/
def AskAt (w : World) (b o : Nat) (i u : Int) (f : Nat) (c : Bool) (m : Int) (s raw : ByteArray) : Prop :=
  (w.cell? ⟨b, o, none⟩ = some (.int .i64 i) ∧ w.cell? ⟨b, o + 1, none⟩ = some (.int .u64 u) ∧ w.cell? ⟨b, o + 2, none⟩ = some (.float .f64 f) ∧ w.cell? ⟨b, o + 3, none⟩ = some (.bool c) ∧
    w.cell? ⟨b, o + 4, none⟩ = some (.int .i64 m) ∧ w.cell? ⟨b, o + 5, none⟩ = some (.string s) ∧ w.cell? ⟨b, o + 6, none⟩ = some (.string raw)) ∧
  -9223372036854775808 ≤ i ∧ i ≤ 9223372036854775807 ∧ 0 ≤ u ∧ u < 18446744073709551616 ∧ f < 18446744073709551616 ∧ -9223372036854775808 ≤ m ∧ m ≤ 9223372036854775807 ∧ s.size ≤ maxLen ∧ raw.size ≤ maxLen

/-- A slice of Asks that came in. -/
def IsAsks (w : World) (a : Option Addr) (len cap : Nat) : Prop :=
  len = 0 ∨ ∃ b off, a = some ⟨b, off, none⟩ ∧ len ≤ maxLen ∧ ∀ k, k < len → ∃ i u f c m s raw, AskAt w b (off + k * 7) i u f c m s raw

theorem AskAt.kept {w w' : World} {b o : Nat} {i u : Int} {f : Nat} {c : Bool} {m : Int} {s raw : ByteArray} (h : AskAt w b o i u f c m s raw) (hb : Below w.heap.size w w') : AskAt w' b o i u f c m s raw := by
  have hlt : b < w.heap.size := World.block_lt_of_cell? w _ h.1.1
  have e : ∀ k, w'.cell? ⟨b, k, none⟩ = w.cell? ⟨b, k, none⟩ := fun k => hb.cell (p := ⟨b, k, none⟩) hlt
  unfold AskAt at *
  simp only [e]
  exact h


theorem trod_float {H : Type} {enc : TypeId × Value → H} {P : Program} {w : World} {base : Nat} {spare : Nat → Bool} {held : Bool} {fuel : Nat} {t : TypeId} {cs : List Value} {x : DataW H × List MemPlace} {k : FloatKind}
    (ht : P.underlying t = some (.float k)) (h : DataW.trod enc P w base spare held fuel t cs = some x) : ∃ n, cs = [.float k n] ∧ x = (.lit (.float k n), []) ∧ (Lit.float k n).wf = true := by
  cases fuel with
  | zero => simp [DataW.trod] at h
  | succ n =>
    unfold DataW.trod at h
    rw [ht] at h
    split at h <;> simp_all

theorem cells2 : Try.prog.cellsOf 2 = 1 := by kernel_rfl
theorem cells3 : Try.prog.cellsOf 3 = 1 := by kernel_rfl
theorem cells4 : Try.prog.cellsOf 4 = 1 := by kernel_rfl
theorem cells9 : Try.prog.cellsOf 9 = 1 := by kernel_rfl
theorem cells24 : Try.prog.cellsOf 24 = 1 := by kernel_rfl
theorem cells25 : Try.prog.cellsOf 25 = 1 := by kernel_rfl
theorem cells27 : Try.prog.cellsOf 27 = 7 := by kernel_rfl

set_option maxRecDepth 100000 in
open Go.ChangeShapes Go.WideShapes in
theorem asks_open {H : Type} {enc : TypeId × Value → H} {w : World} {base : Nat} {spare : Nat → Bool} {held : Bool} {a : Option Addr} {len cap : Nat} {x : DataW H × List MemPlace} {fuel : Nat}
    (h : DataW.trod enc Try.prog w base spare held fuel 22 [.slice a len cap] = some x) : IsAsks w a len cap := by
  rcases Deep.open_slice Try.underlying22 h with ⟨hcs, _⟩ | ⟨a', len', cap', m, n, D, Pl, hcs, hb, hl, hm, hmm, -, hx⟩
  · simp at hcs
    exact .inl hcs.2.1
  · simp at hcs
    obtain ⟨rfl, rfl, rfl⟩ := hcs
    by_cases h0 : len = 0
    · exact .inl h0
    have hlm : len ≤ m := by rw [hmm]; split <;> omega
    right
    have hsp : a'.spot = none := by
      obtain ⟨cs, h1, _⟩ := hx 0 (by omega)
      rw [cells27] at h1
      obtain ⟨_, hlen, hcell⟩ := World.cells?_some h1
      have h0 := hcell 0 (by omega)
      rw [List.getElem?_eq_getElem (by omega)] at h0
      simpa [Addr.add] using World.cell?_spot h0
    have each : ∀ k, k < len → ∃ i u f c mo s raw, AskAt w a'.block (a'.off + k * 7) i u f c mo s raw := by
      intro k hk
      obtain ⟨cs, h1, h2⟩ := hx k (by omega)
      rw [cells27] at h1
      obtain ⟨_, hlen, hcell⟩ := World.cells?_some h1
      obtain ⟨xs, q, hq, hxy, _, hxl, hf⟩ := DataW.trod_struct Try.underlying27 h2
      have hxl : xs.length = 7 := hxl
      have hat : ∀ j, (a'.add (k * 7)).add j = ⟨a'.block, a'.off + k * 7 + j, none⟩ := by
        intro j
        rw [Deep.add_add]
        unfold Addr.add
        by_cases e : k * 7 + j = 0
        · rw [if_pos e]
          cases a'; simp_all
        · rw [if_neg e, Nat.add_assoc]
      simp only [hat] at hcell
      match cs, hlen with
      | [v0, v1, v2, v3, v4, v5, v6], _ =>
        have g0 := hf 0 _ rfl
        have g1 := hf 1 _ rfl
        have g2 := hf 2 _ rfl
        have g3 := hf 3 _ rfl
        have g4 := hf 4 _ rfl
        have g5 := hf 5 _ rfl
        have g6 := hf 6 _ rfl
        simp [cells2, cells3, cells4, cells9, cells24, cells25] at g0 g1 g2 g3 g4 g5 g6
        rw [List.getElem?_eq_getElem (by omega)] at g0 g1 g2 g3 g4 g5 g6
        obtain ⟨i, e0, -, w0⟩ := DataW.trod_int Try.underlying2 g0
        obtain ⟨u, e1, -, w1⟩ := DataW.trod_int Try.underlying24 g1
        obtain ⟨f, e2, -, w2⟩ := trod_float Try.underlying25 g2
        obtain ⟨c, e3, -⟩ := DataW.trod_bool Try.underlying4 g3
        obtain ⟨mo, e4, -, w4⟩ := DataW.trod_int Try.underlying3 g4
        obtain ⟨s, e5, -, w5⟩ := DataW.trod_string Try.underlying9 g5
        obtain ⟨raw, e6, -, w6⟩ := DataW.trod_string Try.underlying9 g6
        simp at e0 e1 e2 e3 e4 e5 e6
        subst e0 e1 e2 e3 e4 e5 e6
        have c0 := hcell 0 (by omega)
        have c1 := hcell 1 (by omega)
        have c2 := hcell 2 (by omega)
        have c3 := hcell 3 (by omega)
        have c4 := hcell 4 (by omega)
        have c5 := hcell 5 (by omega)
        have c6 := hcell 6 (by omega)
        simp [Lit.wf] at w0 w1 w2 w4
        have m0 : IntKind.i64.min = -9223372036854775808 := rfl
        have m1 : IntKind.u64.min = 0 := rfl
        have m2 : IntKind.u64.max = 18446744073709551615 := rfl
        rw [m0] at w0 w4
        rw [m1, m2] at w1
        exact ⟨i, u, f, c, mo, s, raw, ⟨by simpa using c0, by simpa using c1, by simpa using c2, by simpa using c3, by simpa using c4, by simpa using c5, by simpa using c6⟩, by omega, by omega, by omega, by omega, by omega, by omega, by omega, w5, w6⟩
    exact ⟨a'.block, a'.off, by cases a'; simp_all, by omega, each⟩
end Go.Proofs.Ythbcnieekpjhcaa.Leaf
