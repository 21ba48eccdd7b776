/- An array of four numbers in a variable of the call's own. -/
import Derived.Test.YthbcnieekpjhcaaDoorProg
import Derived.Test.YthbcnieekpjhcaaDoorPure
import Derived.Below
import Derived.Lib.Hide
import Derived.WalkKit
import Derived.WalkLawsBesides
import Derived.WalkSpells
import Derived.KernelRfl
import Derived.Deep.LoopGhost
import Derived.Deep.QuietTactic
import Derived.BigQuiet
import Derived.Deep.RegionHeld3
import Derived.Outline
set_option linter.unusedVariables false
set_option linter.unusedSimpArgs false
namespace Go.Proofs.YthbcnieekpjhcaaDoor.Wk
open Go Go.RowKit

/-- Block b is a variable of four numbers. -/
structure Arr4 (w : World) (b : Nat) (x0 x1 x2 x3 : Int) : Prop where
  c0 : w.cell? ⟨b, 0, none⟩ = some (.int .i64 x0)
  c1 : w.cell? ⟨b, 1, none⟩ = some (.int .i64 x1)
  c2 : w.cell? ⟨b, 2, none⟩ = some (.int .i64 x2)
  c3 : w.cell? ⟨b, 3, none⟩ = some (.int .i64 x3)
  free : ∀ j, w.frozen? ⟨b, j, none⟩ = false

variable {w w' : World} {b b' : Nat} {x0 x1 x2 x3 y : Int}
theorem Arr4.drew (h : Arr4 w b x0 x1 x2 x3) : Arr4 w.drew b x0 x1 x2 x3 := ⟨h.c0, h.c1, h.c2, h.c3, h.free⟩
theorem Arr4.lt (h : Arr4 w b x0 x1 x2 x3) : b < w.heap.size := World.block_lt_of_cell? w _ h.c0
theorem Arr4.kept {n : Nat} (h : Arr4 w b x0 x1 x2 x3) (hb : Below n w w') (hn : b < n) : Arr4 w' b x0 x1 x2 x3 :=
  ⟨(hb.cell (p := ⟨b, 0, none⟩) hn).trans h.c0, (hb.cell (p := ⟨b, 1, none⟩) hn).trans h.c1, (hb.cell (p := ⟨b, 2, none⟩) hn).trans h.c2, (hb.cell (p := ⟨b, 3, none⟩) hn).trans h.c3, fun j => (hb.frozen (p := ⟨b, j, none⟩) hn).trans (h.free j)⟩
theorem Arr4.alloc (h : Arr4 w b x0 x1 x2 x3) (o : Obj) : Arr4 (w.alloc o) b x0 x1 x2 x3 :=
  h.kept (Below.alloc (Below.refl w.heap.size w) (Nat.le_refl _) o) h.lt
theorem Arr4.new (w : World) : Arr4 (w.alloc (.cells #[.int .i64 x0, .int .i64 x1, .int .i64 x2, .int .i64 x3] 30)) w.heap.size x0 x1 x2 x3 :=
  ⟨by go_simp, by go_simp, by go_simp, by go_simp, fun j => by go_simp⟩
theorem Arr4.far (h : Arr4 w b x0 x1 x2 x3) (k : Nat) (v : Value) (hne : b' ≠ b) : Arr4 (w.setCell ⟨b', k, none⟩ v) b x0 x1 x2 x3 :=
  ⟨(World.cell?_setCell_other _ _ _ _ (by simp [hne])).trans h.c0, (World.cell?_setCell_other _ _ _ _ (by simp [hne])).trans h.c1, (World.cell?_setCell_other _ _ _ _ (by simp [hne])).trans h.c2, (World.cell?_setCell_other _ _ _ _ (by simp [hne])).trans h.c3, fun j => by rw [World.frozen?_setCell]; exact h.free j⟩
theorem Arr4.set0 (h : Arr4 w b x0 x1 x2 x3) : Arr4 (w.setCell ⟨b, 0, none⟩ (.int .i64 y)) b y x1 x2 x3 :=
  ⟨World.cell?_setCell_same _ _ _ h.c0, (World.cell?_setCell_other _ _ _ _ (by simp)).trans h.c1, (World.cell?_setCell_other _ _ _ _ (by simp)).trans h.c2, (World.cell?_setCell_other _ _ _ _ (by simp)).trans h.c3, fun j => by rw [World.frozen?_setCell]; exact h.free j⟩
theorem Arr4.set1 (h : Arr4 w b x0 x1 x2 x3) : Arr4 (w.setCell ⟨b, 1, none⟩ (.int .i64 y)) b x0 y x2 x3 :=
  ⟨(World.cell?_setCell_other _ _ _ _ (by simp)).trans h.c0, World.cell?_setCell_same _ _ _ h.c1, (World.cell?_setCell_other _ _ _ _ (by simp)).trans h.c2, (World.cell?_setCell_other _ _ _ _ (by simp)).trans h.c3, fun j => by rw [World.frozen?_setCell]; exact h.free j⟩
theorem Arr4.set2 (h : Arr4 w b x0 x1 x2 x3) : Arr4 (w.setCell ⟨b, 2, none⟩ (.int .i64 y)) b x0 x1 y x3 :=
  ⟨(World.cell?_setCell_other _ _ _ _ (by simp)).trans h.c0, (World.cell?_setCell_other _ _ _ _ (by simp)).trans h.c1, World.cell?_setCell_same _ _ _ h.c2, (World.cell?_setCell_other _ _ _ _ (by simp)).trans h.c3, fun j => by rw [World.frozen?_setCell]; exact h.free j⟩
theorem Arr4.set3 (h : Arr4 w b x0 x1 x2 x3) : Arr4 (w.setCell ⟨b, 3, none⟩ (.int .i64 y)) b x0 x1 x2 y :=
  ⟨(World.cell?_setCell_other _ _ _ _ (by simp)).trans h.c0, (World.cell?_setCell_other _ _ _ _ (by simp)).trans h.c1, (World.cell?_setCell_other _ _ _ _ (by simp)).trans h.c2, World.cell?_setCell_same _ _ _ h.c3, fun j => by rw [World.frozen?_setCell]; exact h.free j⟩

/-- a number as an array of its digits -/
def agg4 (x : Int) : Value := .agg #[.int .i64 (Pu.d0 x), .int .i64 (Pu.d1 x), .int .i64 (Pu.d2 x), .int .i64 (Pu.d3 x)]
end Go.Proofs.YthbcnieekpjhcaaDoor.Wk
