/- What a call may turn: the blocks of a footprint, and new ones. No program in sight. -/
import Derived.Below
import Derived.Deep.Draws
import Derived.Maps.Own
import Derived.Laws.AppendOwn
import Derived.Lib.Hide
import Derived.Maps.OwnSet
import Derived.Maps.Views
import Derived.Test.YtccblcnjeekhbaaProg
import Derived.WalkKit
import Derived.KernelRfl
import Derived.Outline
import Derived.Laws.MakeOwn
import Derived.Laws.CopyRow
import Derived.Laws.Tables
import Derived.Lib.SliceRun
import Derived.WalkSpells
import Derived.WalkLawsBesides
import Derived.BigQuiet
import Derived.Deep.QuietTactic
import Derived.Deep.RegionHeld3
import Derived.Test.YtccblcnjeekhbaaWWords
import Derived.Maps.OwnOps
import Derived.OwnWalk
import Derived.Deep.CutBlock
import Derived.Deep.DeepCutAuto
import Derived.Test.YtccblcnjeekhbaaPStoreHoldsx4
import Derived.LoopN
import Derived.Carry
namespace Go.Proofs.Ytccblcnjeekhbaa
open Go.RowKit
set_option linter.unusedVariables false

/-- w' is w but for the blocks of F and for new ones. -/
structure Turn (F : Nat → Prop) (w w' : World) : Prop where
  os : w'.os = w.os
  tape : w'.tape = w.tape
  output : w'.output = w.output
  size : w.heap.size ≤ w'.heap.size
  block : ∀ k, k < w.heap.size → ¬ F k → w'.heap[k]? = w.heap[k]?

theorem Turn.refl (F : Nat → Prop) (w : World) : Turn F w w := ⟨rfl, rfl, rfl, Nat.le_refl _, fun _ _ _ => rfl⟩
theorem Turn.trans {F : Nat → Prop} {a b c : World} (h : Turn F a b) (k : Turn (fun i => F i ∨ a.heap.size ≤ i) b c) : Turn F a c :=
  ⟨k.os.trans h.os, k.tape.trans h.tape, k.output.trans h.output, Nat.le_trans h.size k.size,
   fun i hi hF => (k.block i (Nat.lt_of_lt_of_le hi h.size) (fun hh => hh.elim hF (fun hh => by omega))).trans (h.block i hi hF)⟩
theorem Turn.mono {F G : Nat → Prop} {a b : World} (h : Turn F a b) (k : ∀ i, i < a.heap.size → F i → G i) : Turn G a b :=
  ⟨h.os, h.tape, h.output, h.size, fun i hi hG => h.block i hi (fun hF => hG (k i hi hF))⟩
theorem Turn.then {F G : Nat → Prop} {a b c : World} (h : Turn F a b) (k : Turn G b c) (hG : ∀ i, G i → F i ∨ a.heap.size ≤ i) : Turn F a c :=
  h.trans (k.mono fun i _ hi => hG i hi)
theorem Turn.of_below {F : Nat → Prop} {a b : World} {n : Nat} (h : Below n a b) (hn : a.heap.size ≤ n) : Turn F a b :=
  ⟨h.os, h.tape, h.output, h.size, fun i hi _ => h.block i (by omega)⟩
theorem Turn.of_grown {F : Nat → Prop} {a b : World} {row : Option Nat} (h : a.grownBy b row) (hr : ∀ k, row = some k → F k ∨ a.heap.size ≤ k) : Turn F a b :=
  ⟨h.os, h.tape, h.output, h.size, fun i hi hF => h.block i hi (fun e => by rcases hr i e.symm with h | h; exact hF h; omega)⟩
theorem Turn.below {F : Nat → Prop} {a b : World} {n : Nat} (h : Turn F a b) (hF : ∀ k, F k → n ≤ k) (hn : n ≤ a.heap.size) : Below n a b :=
  ⟨h.os, h.tape, h.output, h.size, fun i hi => h.block i (by omega) (fun hf => by have := hF i hf; omega)⟩
theorem Turn.alloc {F : Nat → Prop} {a b : World} (h : Turn F a b) (o : Obj) : Turn F a (b.alloc o) :=
  h.trans (Turn.of_below (Below.alloc (Below.refl b.heap.size b) (Nat.le_refl _) o) (Nat.le_refl _))
theorem Turn.drew {F : Nat → Prop} {a b : World} (h : Turn F a b) : Turn F a b.drew := ⟨h.os, h.tape, h.output, h.size, h.block⟩
theorem Turn.drewN {F : Nat → Prop} {a b : World} (h : Turn F a b) (n : Nat) : Turn F a (b.drewN n) := ⟨h.os, h.tape, h.output, h.size, h.block⟩
theorem Turn.setCell {F : Nat → Prop} {a b : World} (h : Turn F a b) (p : Addr) (v : Value) (hp : F p.block ∨ a.heap.size ≤ p.block) : Turn F a (b.setCell p v) := by
  have e := Below.heap_setCell b p v
  refine ⟨?_, ?_, ?_, ?_, fun i hi hF => ?_⟩
  · rw [show (b.setCell p v).os = b.os from rfl]; exact h.os
  · rw [show (b.setCell p v).tape = b.tape from rfl]; exact h.tape
  · rw [show (b.setCell p v).output = b.output from rfl]; exact h.output
  · have := h.size; simpa using this
  · rw [e i (fun hh => by subst hh; rcases hp with hp | hp; exact hF hp; omega)]
    exact h.block i hi hF
theorem Turn.heap {F : Nat → Prop} {a b : World} (h : Turn F a b) {k : Nat} {o : Obj} (hk : a.heap[k]? = some o) (hF : ¬ F k) : b.heap[k]? = some o :=
  (h.block k (Array.getElem?_eq_some_iff.1 hk).1 hF).trans hk
theorem Turn.cell {F : Nat → Prop} {a b : World} (h : Turn F a b) {p : Addr} {v : Value} (hk : a.cell? p = some v) (hF : ¬ F p.block) : b.cell? p = some v := by
  have := h.block p.block (World.block_lt_of_cell? a p hk) hF
  simpa [World.cell?, this] using hk
/-- A row of one's own, elsewhere. -/
theorem Turn.row {F : Nat → Prop} {a b : World} (h : Turn F a b) {base : Nat} {e : TypeId} {size n : Nat} {v : Value} {xs : List Value} (ho : a.ownsRow base e size v n xs) (hF : ∀ k, v.ownBlock = some k → ¬ F k) : b.ownsRow base e size v n xs := by
  obtain ⟨h1, h2⟩ := ho
  refine ⟨h1, ?_⟩
  rcases h2 with h2 | ⟨g, cap, cur, hv, hb, hh, r⟩
  · exact .inl h2
  · exact .inr ⟨g, cap, cur, hv, hb, h.heap hh (hF g (by rw [hv]; rfl)), r⟩
theorem Turn.map {H : Type} {P : Program} {F : Nat → Prop} {a b : World} (h : Turn F a b) {k : TypeId} {R : Value → Option (DataW H × List MemPlace)} {m n : Nat} {D : DataW H} (ho : a.ownsMap P k R m n D) (hF : ¬ F m) : b.ownsMap P k R m n D := by
  obtain ⟨es, clock, hb, r⟩ := ho
  exact ⟨es, clock, h.heap hb hF, r⟩
theorem alloc_new (w : World) (o : Obj) : (w.alloc o).heap[w.heap.size]? = some o := by
  show (w.heap.push o)[w.heap.size]? = _
  rw [Array.getElem?_push, if_pos rfl]
theorem alloc_old {w : World} {k : Nat} {x : Obj} (h : w.heap[k]? = some x) (o : Obj) : (w.alloc o).heap[k]? = some x := by
  show (w.heap.push o)[k]? = _
  rw [Array.getElem?_push, if_neg (by have := (Array.getElem?_eq_some_iff.1 h).1; omega)]; exact h
end Go.Proofs.Ytccblcnjeekhbaa
/- A map from whole numbers to whole numbers as the list of what was put, in its order. No program in sight. -/
namespace Go.Proofs.Ytccblcnjeekhbaa
open Go.RowKit
open Go.Maps
set_option linter.unusedVariables false

abbrev kI (n : Int) : Lit := .int .i64 n
def mapI (ps : List (Int × Int)) : DataW Unit := ps.foldl (fun D p => D.put (kI p.1) (.lit (kI p.2))) (.map [])
def hasI (ps : List (Int × Int)) (k : Int) : Bool := ps.any (fun p => p.1 == k)
/-- the last one that was put -/
def lookI (ps : List (Int × Int)) (k : Int) : Int := ps.foldl (fun v p => if p.1 = k then p.2 else v) 0

theorem snoc_ind {α : Type} {p : List α → Prop} (h0 : p []) (h1 : ∀ l a, p l → p (l ++ [a])) (l : List α) : p l := by
  have h : ∀ m : List α, p m.reverse := by
    intro m
    induction m with
    | nil => exact h0
    | cons a m ih => rw [List.reverse_cons]; exact h1 _ _ ih
  have := h l.reverse
  rwa [List.reverse_reverse] at this
theorem mapI_snoc (ps : List (Int × Int)) (p : Int × Int) : mapI (ps ++ [p]) = (mapI ps).put (kI p.1) (.lit (kI p.2)) := by
  simp [mapI, List.foldl_append]
theorem hasI_snoc (ps : List (Int × Int)) (p : Int × Int) (k : Int) : hasI (ps ++ [p]) k = (hasI ps k || (p.1 == k)) := by simp [hasI]
theorem lookI_snoc (ps : List (Int × Int)) (p : Int × Int) (k : Int) : lookI (ps ++ [p]) k = if p.1 = k then p.2 else lookI ps k := by simp [lookI, List.foldl_append]
theorem kI_inj {a b : Int} : kI a = kI b ↔ a = b := by simp
theorem isKey_kI (a : Int) : WideAt.IsKeyLit (kI a) := by simp [WideAt.IsKeyLit]
theorem isMap_mapI (ps : List (Int × Int)) : IsMap (mapI ps) := by
  induction ps using snoc_ind with
  | h0 => exact isMap_empty
  | h1 l p ih => rw [mapI_snoc]; exact ih.put _ _
theorem has_mapI (ps : List (Int × Int)) (k : Int) : Maps.has (mapI ps) (kI k) = hasI ps k := by
  induction ps using snoc_ind with
  | h0 => rfl
  | h1 l p ih =>
    rw [mapI_snoc, hasI_snoc]
    by_cases h : p.1 = k
    · subst h
      rw [has_put_same (isMap_mapI l) (isKey_kI _)]; simp
    · rw [has_put_other (fun e => h (kI_inj.1 e).symm), ih]
      simp [h]
theorem at_mapI (ps : List (Int × Int)) (k : Int) : (mapI ps).atKey (kI k) (.lit (kI 0)) = .lit (kI (lookI ps k)) := by
  induction ps using snoc_ind with
  | h0 => rfl
  | h1 l p ih =>
    rw [mapI_snoc, lookI_snoc]
    by_cases h : p.1 = k
    · subst h
      rw [atKey_put_same (isMap_mapI l) (isKey_kI _), if_pos rfl]
    · rw [atKey_put_other (fun e => h (kI_inj.1 e).symm), ih, if_neg h]
end Go.Proofs.Ytccblcnjeekhbaa
/- Package mem: New and Grow, for a memory whose bytes are all zero. -/
namespace Go.Proofs.Ytccblcnjeekhbaa
open Go.RowKit
set_option linter.unusedVariables false
set_option linter.unusedSimpArgs false

theorem info5 : (Try.prog.info? 5).map (fun i => (i.zero, i.size, i.bytes)) = some (some (.int .u8 0), 1, 1) := by kernel_rfl
theorem size5 : (Try.prog.info? 5).map (·.size) = some 1 := by kernel_rfl
theorem zero5 (w : World) : (zeroValue 5).run Try.prog w = .ok (.int .u8 0) w := by kernel_rfl

/-- n zero bytes -/
def zb (n : Nat) : Array Value := Array.replicate n (.int .u8 0)
theorem zb_size (n : Nat) : (zb n).size = n := by simp [zb]
theorem zb_get {n j : Nat} (h : j < n) : (zb n)[j]? = some (.int .u8 0) := by
  unfold zb; rw [Array.getElem?_replicate, if_pos h]
theorem zb_made (n : Nat) : madeCells #[.int .u8 0] n = zb n := by
  apply Array.ext
  · simp [madeCells, zb]
  · intro i h1 h2
    simp [madeCells, zb, Nat.mod_one]

/-- A memory of len zero bytes, with room for cap: its struct is block pm, its bytes are block g. -/
structure MemZ (w : World) (n pm g len cap : Nat) : Prop where
  hm : w.heap[pm]? = some (.cells #[.slice (some ⟨g, 0, none⟩) len cap] 97 (0, 0))
  hg : w.heap[g]? = some (.cells (zb cap) 5 (0, 0))
  hne : pm ≠ g
  hpm : n ≤ pm
  hgn : n ≤ g
  hlen : len ≤ cap
  hcap : cap ≤ 134217728
  hpos : 0 < len
def memF (pm g : Nat) (k : Nat) : Prop := k = pm ∨ k = g

theorem zb_splice (c k : Nat) (h : k ≤ c) : ((zb c).toList.take 0 ++ List.replicate k (Value.int .u8 0) ++ (zb c).toList.drop (0 + k)).toArray = zb c := by
  apply Array.toList_inj.mp
  simp only [zb, Array.toList_replicate, List.take_zero, List.nil_append, Nat.zero_add, List.drop_replicate, List.replicate_append_replicate]
  congr 1; omega

/-- copy(b, m.b): zeros over zeros. -/
theorem run_copy_zero (w : World) (ty : TypeId) (g g' size c len cap : Nat) (hg : w.heap[g]? = some (.cells (zb cap) 5 (0, 0))) (hg' : w.heap[g']? = some (.cells (zb c) 5 (0, 0)))
    (h : len ≤ size) (hc : size ≤ c) (hl : len ≤ cap) :
    (Builtin.copy_ #[95, 95] ty #[.slice (some ⟨g', 0, none⟩) size c, .slice (some ⟨g, 0, none⟩) len cap]).run Try.prog w = .ok (goInt len) w := by
  have hr := run_copy_row (P := Try.prog) w 95 95 ty 5 g' 0 size c ⟨g, 0, none⟩ len cap (zb c) 5 (List.replicate len (.int .u8 0)) Try.underlying95 size5 hg' (by simp [Nat.min_def]; omega)
    (by
      intro j v hj
      have hj' : j < len := by
        rcases Nat.lt_or_ge j len with h | h
        · exact h
        · simp [List.getElem?_eq_none (l := List.replicate len (Value.int .u8 0)) (by simpa using h)] at hj
      rw [List.getElem?_replicate, if_pos hj'] at hj
      cases hj
      have : (⟨g, 0, none⟩ : Addr).add j = ⟨g, j, none⟩ := by unfold Addr.add; split <;> simp_all
      rw [this]
      simp only [this, World.cell?, hg]; simp only [Option.isSome_none, Bool.false_eq_true, if_false]; exact zb_get (by omega))
    (by simp [zb_size]; omega) (by intro v hv; rw [List.eq_of_mem_replicate hv]; rfl)
  rw [List.length_replicate] at hr
  rw [hr, zb_splice c len (by omega), setRow_self w g' (zb c) 5 (0, 0) hg']

theorem set_id (cs : Array Value) (i : Nat) (v : Value) (hv : cs[i]? = some v) : cs.setIfInBounds i v = cs := by
  apply Array.ext_getElem?
  intro j
  rw [Array.getElem?_setIfInBounds]
  split
  · rename_i h
    subst h
    split
    · exact hv.symm
    · rename_i h2
      rw [Array.getElem?_eq_none (by omega)]
  · rfl
theorem setCell_id (w : World) (g i : Nat) (cs : Array Value) (t : TypeId) (v : Value) (hg : w.heap[g]? = some (.cells cs t (0, 0))) (hv : cs[i]? = some v) : w.setCell ⟨g, i, none⟩ v = w := by
  have hlt : g < w.heap.size := (Array.getElem?_eq_some_iff.1 hg).1
  have hgv : w.heap[g] = .cells cs t (0, 0) := (Array.getElem?_eq_some_iff.1 hg).2
  have hi : i < cs.size := (Array.getElem?_eq_some_iff.1 hv).1
  have hiv : cs[i] = v := (Array.getElem?_eq_some_iff.1 hv).2
  unfold World.setCell
  cases w with
  | mk heap tape drawn os output =>
    congr 1
    apply Array.ext
    · simp
    · intro k h1 h2
      simp only [Array.getElem_modify]
      split
      · rename_i hk
        subst hk
        simp only at hgv
        rw [hgv]
        simp only [Option.isSome_none, Bool.false_eq_true, if_false]
        rw [set_id cs i v hv]
      · rfl
theorem setCells_id (g cap : Nat) : ∀ (m o : Nat) (w : World), w.heap[g]? = some (.cells (zb cap) 5 (0, 0)) → o + m ≤ cap → w.setCells g o (List.replicate m (.int .u8 0)) = w
  | 0, _, _, _, _ => rfl
  | m + 1, o, w, h, hm => by
    rw [List.replicate_succ, World.setCells, setCell_id w g o (zb cap) 5 _ h (zb_get (show o < cap by omega))]
    exact setCells_id g cap m (o + 1) w h (by omega)
/-- clear(m.b[old:]): zeros over zeros. -/
theorem run_clear_zero (w : World) (ty : TypeId) (g cap old size : Nat) (hg : w.heap[g]? = some (.cells (zb cap) 5 (0, 0))) (h : old < size) (hc : size ≤ cap) (c : Nat) :
    (Builtin.clear_ #[95] ty #[.slice (some ⟨g, old, none⟩) (size - old) c]).run Try.prog w = .ok (.tuple #[]) w := by
  have hr := Lib.run_clear_slice (P := Try.prog) w 95 5 ty (.int .u8 0) Try.underlying95 zero5 rfl rfl g old (size - old) c (by omega)
    (by intro j hj; simp only [World.cell?, hg]; simp only [Option.isSome_none, Bool.false_eq_true, if_false]; rw [zb_get (by omega)]; rfl) (by intro j hj; simp [World.frozen?, hg])
  rw [hr, setCells_id g cap _ old w hg (by omega)]

def GrowPost (w : World) (n pm g size : Nat) (e : Ending) (w' : World) : Prop :=
  e = .returned (.int .i64 0) ∧ ∃ g' cap', MemZ w' n pm g' size cap' ∧ Turn (memF pm g) w w' ∧ (g' = g ∨ w.heap.size ≤ g')

theorem len_call (w : World) (n pm g len cap : Nat) (h : MemZ w n pm g len cap) : Calls Try.prog 60 #[.pointer (some ⟨pm, 0, none⟩)] w fun e w' => e = .returned (.int .i64 len) ∧ w = w' := by
  have c0 : w.cell? ⟨pm, 0, none⟩ = some (.slice (some ⟨g, 0, none⟩) len cap) := by simp [World.cell?, h.hm]
  clear h
  go_enter Try.func60, Try.ntmps60
  go_wp2_with fail
  go_ret
  exact ⟨rfl, rfl⟩

theorem grow_fin (w w1 : World) (n pm g g' size cap' : Nat) (hw : Turn (memF pm g) w w1) (hg : w1.heap[g']? = some (.cells (zb cap') 5 (0, 0))) (hm : w1.heap[pm]? = some (.cells #[.slice (some ⟨g', 0, none⟩) size cap'] 97 (0, 0)))
    (hne : pm ≠ g') (h1 : n ≤ pm) (h2 : n ≤ g') (h3 : size ≤ cap') (h4 : cap' ≤ 134217728) (h5 : 0 < size) (h6 : g' = g ∨ w.heap.size ≤ g') : GrowPost w n pm g size (.returned (.int .i64 0)) w1 :=
  ⟨rfl, g', cap', ⟨hm, hg, hne, h1, h2, h3, h4, h5⟩, hw, h6⟩

set_option maxRecDepth 100000 in
set_option maxHeartbeats 4000000 in
theorem grow_room (w : World) (n pm g len cap size : Nat) (h : MemZ w n pm g len cap) (h1 : len < size) (h2 : size ≤ cap) :
    Calls Try.prog 44 #[.pointer (some ⟨pm, 0, none⟩), .int .i64 size] w (GrowPost w n pm g size) := by
  have c0 : w.cell? ⟨pm, 0, none⟩ = some (.slice (some ⟨g, 0, none⟩) len cap) := by simp [World.cell?, h.hm]
  have f0 : w.frozen? ⟨pm, 0, none⟩ = false := by simp [World.frozen?, h.hm]
  have hcap := h.hcap
  have hpos := h.hpos
  have hl := h.hlen
  have hg : (w.setCell ⟨pm, 0, none⟩ (.slice (some ⟨g, 0, none⟩) size cap)).heap[g]? = some (.cells (zb cap) 5 (0, 0)) := (Below.heap_setCell w ⟨pm, 0, none⟩ _ g (fun e => h.hne e.symm)).trans h.hg
  have hm : (w.setCell ⟨pm, 0, none⟩ (.slice (some ⟨g, 0, none⟩) size cap)).heap[pm]? = some (.cells #[.slice (some ⟨g, 0, none⟩) size cap] 97 (0, 0)) := by
    have := heap_setCell_same w pm 0 _ 97 (.slice (some ⟨g, 0, none⟩) size cap) h.hm
    simpa using this
  have hclr := fun c ty => run_clear_zero _ ty g cap len size hg h1 h2 c
  have FIN := Lib.hid (grow_fin w _ n pm g g size cap ((Turn.refl _ w).setCell _ _ (.inl (.inl rfl))) hg hm h.hne h.hpm h.hgn h2 hcap (by omega) (.inl rfl))
  clear hm hg h
  go_enter Try.func44, Try.ntmps44
  go_wp2_with fail
  go_ret
  exact FIN.out

set_option maxRecDepth 100000 in
set_option maxHeartbeats 4000000 in
theorem grow_anew_a (w : World) (n pm g len cap size : Nat) (hn : n ≤ w.heap.size) (h : MemZ w n pm g len cap) (h1 : len < size) (h2 : cap < size) (h3 : size ≤ 67108864) (h4 : 2 * len ≤ size) :
    Calls Try.prog 44 #[.pointer (some ⟨pm, 0, none⟩), .int .i64 size] w (GrowPost w n pm g size) := by
  obtain ⟨i0, hi, hz0, hz1, hz2⟩ := info_parts info5
  have c0 : w.cell? ⟨pm, 0, none⟩ = some (.slice (some ⟨g, 0, none⟩) len cap) := by simp [World.cell?, h.hm]
  have f0 : w.frozen? ⟨pm, 0, none⟩ = false := by simp [World.frozen?, h.hm]
  have hcap := h.hcap
  have hpos := h.hpos
  have hl := h.hlen
  have hpm : pm < w.heap.size := (Array.getElem?_eq_some_iff.1 h.hm).1
  have hgm : g < w.heap.size := (Array.getElem?_eq_some_iff.1 h.hg).1
  have hmk := run_make (P := Try.prog) w 95 5 i0 (.int .u8 0) Try.underlying95 hi hz0 .i64 .i64 (size : Int) (size : Int) (by omega) (by omega) (by rw [hz2]; omega) (by omega)
  rw [hz1, Nat.mul_one, Int.toNat_natCast, show (Value.int IntKind.u8 0).cells = #[.int .u8 0] from rfl, zb_made] at hmk
  have hg1 : (w.alloc (.cells (zb (size)) 5)).heap[g]? = some (.cells (zb cap) 5 (0, 0)) := alloc_old h.hg _
  have hg2 : (w.alloc (.cells (zb (size)) 5)).heap[w.heap.size]? = some (.cells (zb (size)) 5 (0, 0)) := alloc_new _ _
  have hm1 : (w.alloc (.cells (zb (size)) 5)).heap[pm]? = some (.cells #[.slice (some ⟨g, 0, none⟩) len cap] 97 (0, 0)) := alloc_old h.hm _
  have hcp := fun ty => run_copy_zero (w.alloc (.cells (zb (size)) 5)) ty g w.heap.size size (size) len cap hg1 hg2 (by omega) (by omega) hl
  have hm2 : (w.setCell ⟨pm, 0, none⟩ (.slice (some ⟨w.heap.size, 0, none⟩) size (size))).heap[pm]? = some (.cells #[.slice (some ⟨w.heap.size, 0, none⟩) size (size)] 97 (0, 0)) := by
    have := heap_setCell_same w pm 0 _ 97 (.slice (some ⟨w.heap.size, 0, none⟩) size (size)) h.hm
    simpa using this
  have hm3 := alloc_old hm2 (.cells (zb (size)) 5)
  have hg3 : ((w.setCell ⟨pm, 0, none⟩ (.slice (some ⟨w.heap.size, 0, none⟩) size (size))).alloc (.cells (zb (size)) 5)).heap[w.heap.size]? = some (.cells (zb (size)) 5 (0, 0)) := by
    have := alloc_new (w.setCell ⟨pm, 0, none⟩ (.slice (some ⟨w.heap.size, 0, none⟩) size (size))) (.cells (zb (size)) 5)
    rwa [show (w.setCell ⟨pm, 0, none⟩ (.slice (some ⟨w.heap.size, 0, none⟩) size (size))).heap.size = w.heap.size by simp] at this
  have FIN := Lib.hid (grow_fin w _ n pm g w.heap.size size (size) (((Turn.refl _ w).setCell _ _ (.inl (.inl rfl))).alloc _) hg3 hm3 (by omega) h.hpm hn (by omega) (by omega) (by omega) (.inr (Nat.le_refl _)))
  clear hm2
  clear hm3 hg3 hm1 hg1 hg2 h hi hz0 hz1 hz2
  have h5 : (size : Int) ≤ 134217728 := by omega
  go_enter Try.func44, Try.ntmps44
  go_wp2_with fail
  go_ret
  exact FIN.out
set_option maxRecDepth 100000 in
set_option maxHeartbeats 4000000 in
theorem grow_anew_b (w : World) (n pm g len cap size : Nat) (hn : n ≤ w.heap.size) (h : MemZ w n pm g len cap) (h1 : len < size) (h2 : cap < size) (h3 : size ≤ 67108864) (h4 : size < 2 * len) :
    Calls Try.prog 44 #[.pointer (some ⟨pm, 0, none⟩), .int .i64 size] w (GrowPost w n pm g size) := by
  obtain ⟨i0, hi, hz0, hz1, hz2⟩ := info_parts info5
  have c0 : w.cell? ⟨pm, 0, none⟩ = some (.slice (some ⟨g, 0, none⟩) len cap) := by simp [World.cell?, h.hm]
  have f0 : w.frozen? ⟨pm, 0, none⟩ = false := by simp [World.frozen?, h.hm]
  have hcap := h.hcap
  have hpos := h.hpos
  have hl := h.hlen
  have hpm : pm < w.heap.size := (Array.getElem?_eq_some_iff.1 h.hm).1
  have hgm : g < w.heap.size := (Array.getElem?_eq_some_iff.1 h.hg).1
  have hmk := run_make (P := Try.prog) w 95 5 i0 (.int .u8 0) Try.underlying95 hi hz0 .i64 .i64 (size : Int) (2 * (len : Int)) (by omega) (by omega) (by rw [hz2]; omega) (by omega)
  rw [hz1, Nat.mul_one, Int.toNat_natCast, show ((2 * (len : Int))).toNat = 2 * len from by omega, show (Value.int IntKind.u8 0).cells = #[.int .u8 0] from rfl, zb_made] at hmk
  have hg1 : (w.alloc (.cells (zb (2 * len)) 5)).heap[g]? = some (.cells (zb cap) 5 (0, 0)) := alloc_old h.hg _
  have hg2 : (w.alloc (.cells (zb (2 * len)) 5)).heap[w.heap.size]? = some (.cells (zb (2 * len)) 5 (0, 0)) := alloc_new _ _
  have hm1 : (w.alloc (.cells (zb (2 * len)) 5)).heap[pm]? = some (.cells #[.slice (some ⟨g, 0, none⟩) len cap] 97 (0, 0)) := alloc_old h.hm _
  have hcp := fun ty => run_copy_zero (w.alloc (.cells (zb (2 * len)) 5)) ty g w.heap.size size (2 * len) len cap hg1 hg2 (by omega) (by omega) hl
  have hm2 : (w.setCell ⟨pm, 0, none⟩ (.slice (some ⟨w.heap.size, 0, none⟩) size (2 * len))).heap[pm]? = some (.cells #[.slice (some ⟨w.heap.size, 0, none⟩) size (2 * len)] 97 (0, 0)) := by
    have := heap_setCell_same w pm 0 _ 97 (.slice (some ⟨w.heap.size, 0, none⟩) size (2 * len)) h.hm
    simpa using this
  have hm3 := alloc_old hm2 (.cells (zb (2 * len)) 5)
  have hg3 : ((w.setCell ⟨pm, 0, none⟩ (.slice (some ⟨w.heap.size, 0, none⟩) size (2 * len))).alloc (.cells (zb (2 * len)) 5)).heap[w.heap.size]? = some (.cells (zb (2 * len)) 5 (0, 0)) := by
    have := alloc_new (w.setCell ⟨pm, 0, none⟩ (.slice (some ⟨w.heap.size, 0, none⟩) size (2 * len))) (.cells (zb (2 * len)) 5)
    rwa [show (w.setCell ⟨pm, 0, none⟩ (.slice (some ⟨w.heap.size, 0, none⟩) size (2 * len))).heap.size = w.heap.size by simp] at this
  have FIN := Lib.hid (grow_fin w _ n pm g w.heap.size size (2 * len) (((Turn.refl _ w).setCell _ _ (.inl (.inl rfl))).alloc _) hg3 hm3 (by omega) h.hpm hn (by omega) (by omega) (by omega) (.inr (Nat.le_refl _)))
  clear hm2
  clear hm3 hg3 hm1 hg1 hg2 h hi hz0 hz1 hz2
  have h5 : (size : Int) ≤ 134217728 := by omega
  have h6 : (2 * (len : Int)) ≤ 134217728 := by omega
  go_enter Try.func44, Try.ntmps44
  go_wp2_with fail
  go_ret
  exact FIN.out

theorem grow_call (w : World) (n pm g len cap size : Nat) (hn : n ≤ w.heap.size) (h : MemZ w n pm g len cap) (h1 : len < size) (h3 : size ≤ 67108864) :
    Calls Try.prog 44 #[.pointer (some ⟨pm, 0, none⟩), .int .i64 size] w (GrowPost w n pm g size) := by
  by_cases h2 : size ≤ cap
  · exact grow_room w n pm g len cap size h h1 h2
  · by_cases h4 : 2 * len ≤ size
    · exact grow_anew_a w n pm g len cap size hn h h1 (by omega) h3 h4
    · exact grow_anew_b w n pm g len cap size hn h h1 (by omega) h3 (by omega)
end Go.Proofs.Ytccblcnjeekhbaa
/- Package arena, for an arena whose blocks are all live: what it is in memory; Class, End, take. -/
namespace Go.Proofs.Ytccblcnjeekhbaa
open Go.RowKit Go.Maps
open Go.Proofs.YtccblcnjeekhbaaW.PrintWords (print_append_num nums)
set_option linter.unusedVariables false
set_option linter.unusedSimpArgs false

theorem info3 : (Try.prog.info? 3).map (fun i => (i.zero, i.size, i.bytes)) = some (some (.int .i64 0), 1, 8) := by kernel_rfl
theorem key3 : Keyed Try.prog 3 := int_keyed Try.underlying3
theorem zero3 (w : World) : (zeroValue 3).run Try.prog w = .ok (.int .i64 0) w := by kernel_rfl
theorem zero22 (w : World) : (zeroValue 22).run Try.prog w = .ok (.slice none 0 0) w := by kernel_rfl

def sumI : List Int → Int
  | [] => 0
  | c :: l => c + sumI l
theorem sumI_snoc (l : List Int) (c : Int) : sumI (l ++ [c]) = sumI l + c := by
  induction l with
  | nil => simp [sumI]
  | cons a l ih => simp only [List.cons_append, sumI, ih]; omega
/-- offset and bytes of each block -/
def pairs (s : Int) : List Int → List (Int × Int)
  | [] => []
  | c :: l => (s, c) :: pairs (s + c) l
theorem pairs_snoc (l : List Int) (c : Int) : ∀ s, pairs s (l ++ [c]) = pairs s l ++ [(s + sumI l, c)] := by
  induction l with
  | nil => intro s; simp [pairs, sumI]
  | cons a l ih => intro s; simp only [List.cons_append, pairs, ih, sumI]; rw [show s + a + sumI l = s + (a + sumI l) by omega]
theorem pairs_length (l : List Int) : ∀ s, (pairs s l).length = l.length := by
  induction l with
  | nil => intro s; rfl
  | cons a l ih => intro s; simp [pairs, ih]
def offs (l : List Int) : List Int := (pairs 16 l).map (·.1)
theorem offs_snoc (l : List Int) (c : Int) : offs (l ++ [c]) = offs l ++ [16 + sumI l] := by simp [offs, pairs_snoc]
theorem offs_length (l : List Int) : (offs l).length = l.length := by simp [offs, pairs_length]

/-- an element that is a nil slice -/
def nilElem (v : Value) : Option (DataW Unit × List MemPlace) := match v with | .slice none 0 0 => some (.nil, []) | _ => none
theorem nilElem_inv {v : Value} {d : DataW Unit} {ps : List MemPlace} (h : nilElem v = some (d, ps)) : v = .slice none 0 0 := by
  unfold nilElem at h
  split at h
  · rfl
  · cases h

/-- the arena's parts in memory: struct pa, memory pm and g, two rows, two maps -/
structure ArB (w : World) (n pa pm g cap E : Nat) (live : Int) (vS vC : Value) (bs bf : Nat) (lS lC : List Int) (m : Nat) (ps : List (Int × Int)) : Prop where
  ha : w.heap[pa]? = some (.cells #[.int .i64 2097152, .int .i64 live, .pointer (some ⟨pm, 0, none⟩), vS, vC, .map (some bs), .map (some bf)] 62 (0, 0))
  mem : MemZ w n pm g E cap
  hS : w.ownsRow n 3 1 vS lS.length (nums .i64 lS)
  hC : w.ownsRow n 3 1 vC lC.length (nums .i64 lC)
  hs : w.ownsMap Try.prog 3 (plainElem Try.prog 3) bs m (mapI ps)
  hf : w.ownsMap Try.prog 3 nilElem bf 0 (.map [])
  nSC : ∀ k, vS.ownBlock = some k → vC.ownBlock ≠ some k
  nsf : bs ≠ bf
  npa : n ≤ pa
  nbs : n ≤ bs
  nbf : n ≤ bf
def arF (pa pm g : Nat) (vS vC : Value) (bs bf : Nat) (k : Nat) : Prop := k = pa ∨ k = pm ∨ k = g ∨ vS.ownBlock = some k ∨ vC.ownBlock = some k ∨ k = bs ∨ k = bf

theorem ne_heap {w : World} {i j : Nat} {o p : Obj} (h : w.heap[i]? = some o) (k : w.heap[j]? = some p) (hne : o ≠ p) : i ≠ j := by
  intro e; subst e; rw [h] at k; exact hne (Option.some.inj k)
theorem ne_type {cs cs' : Array Value} {t t' : TypeId} {f f' : Nat × Nat} (h : t ≠ t') : Obj.cells cs t f ≠ Obj.cells cs' t' f' := fun e => by injection e with _ e _; exact h e
theorem ne_map {cs : Array Value} {t : TypeId} {f : Nat × Nat} {es : Array MapEntry} {c : Nat} : Obj.map es c ≠ Obj.cells cs t f := fun e => by cases e
theorem row_typed {w : World} {base : Nat} {e : TypeId} {size n : Nat} {v : Value} {xs : List Value} (h : w.ownsRow base e size v n xs) (k : Nat) (hk : v.ownBlock = some k) : ∃ cur, w.heap[k]? = some (.cells cur e (0, 0)) := by
  rcases h.2 with ⟨rfl, _⟩ | ⟨g, cap, cur, rfl, _, hh, _⟩
  · cases hk
  · cases hk; exact ⟨cur, hh⟩
theorem map_block {w : World} {k : TypeId} {R : Value → Option (DataW Unit × List MemPlace)} {b n : Nat} {D : DataW Unit} (h : w.ownsMap Try.prog k R b n D) : ∃ es c, w.heap[b]? = some (.map es c) := by
  obtain ⟨es, c, hb, _⟩ := h; exact ⟨es, c, hb⟩

section
variable {w : World} {n pa pm g cap E : Nat} {live : Int} {vS vC : Value} {bs bf : Nat} {lS lC : List Int} {m : Nat} {ps : List (Int × Int)}
theorem ArB.pa_pm (h : ArB w n pa pm g cap E live vS vC bs bf lS lC m ps) : pa ≠ pm := ne_heap h.ha h.mem.hm (ne_type (by decide))
theorem ArB.pa_g (h : ArB w n pa pm g cap E live vS vC bs bf lS lC m ps) : pa ≠ g := ne_heap h.ha h.mem.hg (ne_type (by decide))
theorem ArB.S_ne (h : ArB w n pa pm g cap E live vS vC bs bf lS lC m ps) (k : Nat) (hk : vS.ownBlock = some k) : k ≠ pa ∧ k ≠ pm ∧ k ≠ g ∧ k ≠ bs ∧ k ≠ bf := by
  obtain ⟨cur, hc⟩ := row_typed h.hS k hk
  obtain ⟨e1, d1, h1⟩ := map_block h.hs
  obtain ⟨e2, d2, h2⟩ := map_block h.hf
  exact ⟨ne_heap hc h.ha (ne_type (by decide)), ne_heap hc h.mem.hm (ne_type (by decide)), ne_heap hc h.mem.hg (ne_type (by decide)), ne_heap hc h1 ne_map.symm, ne_heap hc h2 ne_map.symm⟩
theorem ArB.C_ne (h : ArB w n pa pm g cap E live vS vC bs bf lS lC m ps) (k : Nat) (hk : vC.ownBlock = some k) : k ≠ pa ∧ k ≠ pm ∧ k ≠ g ∧ k ≠ bs ∧ k ≠ bf := by
  obtain ⟨cur, hc⟩ := row_typed h.hC k hk
  obtain ⟨e1, d1, h1⟩ := map_block h.hs
  obtain ⟨e2, d2, h2⟩ := map_block h.hf
  exact ⟨ne_heap hc h.ha (ne_type (by decide)), ne_heap hc h.mem.hm (ne_type (by decide)), ne_heap hc h.mem.hg (ne_type (by decide)), ne_heap hc h1 ne_map.symm, ne_heap hc h2 ne_map.symm⟩
theorem ArB.s_ne (h : ArB w n pa pm g cap E live vS vC bs bf lS lC m ps) : bs ≠ pa ∧ bs ≠ pm ∧ bs ≠ g := by
  obtain ⟨e1, d1, h1⟩ := map_block h.hs
  exact ⟨ne_heap h1 h.ha ne_map, ne_heap h1 h.mem.hm ne_map, ne_heap h1 h.mem.hg ne_map⟩
theorem ArB.f_ne (h : ArB w n pa pm g cap E live vS vC bs bf lS lC m ps) : bf ≠ pa ∧ bf ≠ pm ∧ bf ≠ g := by
  obtain ⟨e1, d1, h1⟩ := map_block h.hf
  exact ⟨ne_heap h1 h.ha ne_map, ne_heap h1 h.mem.hm ne_map, ne_heap h1 h.mem.hg ne_map⟩
/-- nothing of it is turned -/
theorem ArB.kept (h : ArB w n pa pm g cap E live vS vC bs bf lS lC m ps) {G : Nat → Prop} {w' : World} (T : Turn G w w') (hG : ∀ k, arF pa pm g vS vC bs bf k → ¬ G k) : ArB w' n pa pm g cap E live vS vC bs bf lS lC m ps where
  ha := T.heap h.ha (hG _ (.inl rfl))
  mem := ⟨T.heap h.mem.hm (hG _ (.inr (.inl rfl))), T.heap h.mem.hg (hG _ (.inr (.inr (.inl rfl)))), h.mem.hne, h.mem.hpm, h.mem.hgn, h.mem.hlen, h.mem.hcap, h.mem.hpos⟩
  hS := T.row h.hS (fun k hk => hG _ (.inr (.inr (.inr (.inl hk)))))
  hC := T.row h.hC (fun k hk => hG _ (.inr (.inr (.inr (.inr (.inl hk))))))
  hs := T.map h.hs (hG _ (.inr (.inr (.inr (.inr (.inr (.inl rfl)))))))
  hf := T.map h.hf (hG _ (.inr (.inr (.inr (.inr (.inr (.inr rfl)))))))
  nSC := h.nSC
  nsf := h.nsf
  npa := h.npa
  nbs := h.nbs
  nbf := h.nbf
/-- the memory has grown -/
theorem ArB.grown (h : ArB w n pa pm g cap E live vS vC bs bf lS lC m ps) {w' : World} {g' cap' E' : Nat} (T : Turn (memF pm g) w w') (M : MemZ w' n pm g' E' cap') : ArB w' n pa pm g' cap' E' live vS vC bs bf lS lC m ps where
  ha := T.heap h.ha (fun k => k.elim h.pa_pm h.pa_g)
  mem := M
  hS := T.row h.hS (fun k hk e => e.elim (h.S_ne k hk).2.1 (h.S_ne k hk).2.2.1)
  hC := T.row h.hC (fun k hk e => e.elim (h.C_ne k hk).2.1 (h.C_ne k hk).2.2.1)
  hs := T.map h.hs (fun e => e.elim h.s_ne.2.1 h.s_ne.2.2)
  hf := T.map h.hf (fun e => e.elim h.f_ne.2.1 h.f_ne.2.2)
  nSC := h.nSC
  nsf := h.nsf
  npa := h.npa
  nbs := h.nbs
  nbf := h.nbf
/-- a field of the struct is written -/
theorem set_field {w : World} {b i : Nat} {cs cs' : Array Value} {t : TypeId} (h : w.heap[b]? = some (.cells cs t (0, 0))) (v : Value) (e : cs.setIfInBounds i v = cs') : (w.setCell ⟨b, i, none⟩ v).heap[b]? = some (.cells cs' t (0, 0)) := by
  rw [heap_setCell_same w b i cs t v h, e]
/-- starts = append(starts, x): the row, then the field -/
theorem ArB.addS (h : ArB w n pa pm g cap E live vS vC bs bf lS lC m ps) {w1 : World} {v1 : Value} {x : Int} (ho : w1.ownsRow n 3 1 v1 (lS ++ [x]).length (nums .i64 (lS ++ [x]))) (hg : w.grownBy w1 vS.ownBlock)
    (hat : v1.ownBlock = vS.ownBlock ∨ ∃ b, v1.ownBlock = some b ∧ w.heap.size ≤ b) : ArB (w1.setCell ⟨pa, 3, none⟩ v1) n pa pm g cap E live v1 vC bs bf (lS ++ [x]) lC m ps := by
  have T : Turn (fun k => vS.ownBlock = some k) w w1 := Turn.of_grown hg (fun k hk => .inl hk)
  have ha1 := T.heap h.ha (fun hk => (h.S_ne _ hk).1 rfl)
  have T2 : Turn (fun k => k = pa) w1 (w1.setCell ⟨pa, 3, none⟩ v1) := (Turn.refl _ _).setCell _ _ (.inl rfl)
  have hC1 := T.row h.hC (fun k hk hs => h.nSC k hs hk)
  have hs1 := T.map h.hs (fun hk => (h.S_ne _ hk).2.2.2.1 rfl)
  have hf1 := T.map h.hf (fun hk => (h.S_ne _ hk).2.2.2.2 rfl)
  have hm1 := T.heap h.mem.hm (fun hk => (h.S_ne _ hk).2.1 rfl)
  have hg1 := T.heap h.mem.hg (fun hk => (h.S_ne _ hk).2.2.1 rfl)
  refine ⟨set_field ha1 v1 rfl, ⟨T2.heap hm1 (fun e => h.pa_pm e.symm), T2.heap hg1 (fun e => h.pa_g e.symm), h.mem.hne, h.mem.hpm, h.mem.hgn, h.mem.hlen, h.mem.hcap, h.mem.hpos⟩, T2.row ho (fun k hk e => ?_), T2.row hC1 (fun k hk e => (h.C_ne k hk).1 e), T2.map hs1 h.s_ne.1, T2.map hf1 h.f_ne.1, fun k hk hc => ?_, h.nsf, h.npa, h.nbs, h.nbf⟩
  · obtain ⟨cur, hc⟩ := row_typed ho k hk
    exact ne_heap hc ha1 (ne_type (by decide)) e
  · rcases hat with hat | ⟨b, hb, hlt⟩
    · exact h.nSC k (hat ▸ hk) hc
    · rw [hb] at hk; cases hk
      obtain ⟨cur, hcc⟩ := row_typed h.hC _ hc
      have := (Array.getElem?_eq_some_iff.1 hcc).1
      omega
/-- class = append(class, x): the row, then the field -/
theorem ArB.addC (h : ArB w n pa pm g cap E live vS vC bs bf lS lC m ps) {w1 : World} {v1 : Value} {x : Int} (ho : w1.ownsRow n 3 1 v1 (lC ++ [x]).length (nums .i64 (lC ++ [x]))) (hg : w.grownBy w1 vC.ownBlock)
    (hat : v1.ownBlock = vC.ownBlock ∨ ∃ b, v1.ownBlock = some b ∧ w.heap.size ≤ b) : ArB (w1.setCell ⟨pa, 4, none⟩ v1) n pa pm g cap E live vS v1 bs bf lS (lC ++ [x]) m ps := by
  have T : Turn (fun k => vC.ownBlock = some k) w w1 := Turn.of_grown hg (fun k hk => .inl hk)
  have ha1 := T.heap h.ha (fun hk => (h.C_ne _ hk).1 rfl)
  have T2 : Turn (fun k => k = pa) w1 (w1.setCell ⟨pa, 4, none⟩ v1) := (Turn.refl _ _).setCell _ _ (.inl rfl)
  have hS1 := T.row h.hS (fun k hk hs => h.nSC k hk hs)
  have hs1 := T.map h.hs (fun hk => (h.C_ne _ hk).2.2.2.1 rfl)
  have hf1 := T.map h.hf (fun hk => (h.C_ne _ hk).2.2.2.2 rfl)
  have hm1 := T.heap h.mem.hm (fun hk => (h.C_ne _ hk).2.1 rfl)
  have hg1 := T.heap h.mem.hg (fun hk => (h.C_ne _ hk).2.2.1 rfl)
  refine ⟨set_field ha1 v1 rfl, ⟨T2.heap hm1 (fun e => h.pa_pm e.symm), T2.heap hg1 (fun e => h.pa_g e.symm), h.mem.hne, h.mem.hpm, h.mem.hgn, h.mem.hlen, h.mem.hcap, h.mem.hpos⟩, T2.row hS1 (fun k hk e => (h.S_ne k hk).1 e), T2.row ho (fun k hk e => ?_), T2.map hs1 h.s_ne.1, T2.map hf1 h.f_ne.1, fun k hk hc => ?_, h.nsf, h.npa, h.nbs, h.nbf⟩
  · obtain ⟨cur, hc⟩ := row_typed ho k hk
    exact ne_heap hc ha1 (ne_type (by decide)) e
  · rcases hat with hat | ⟨b, hb, hlt⟩
    · exact h.nSC k hk (hat ▸ hc)
    · rw [hb] at hc; cases hc
      obtain ⟨cur, hcc⟩ := row_typed h.hS _ hk
      have := (Array.getElem?_eq_some_iff.1 hcc).1
      omega
/-- sizes[..] = .. -/
theorem ArB.put (h : ArB w n pa pm g cap E live vS vC bs bf lS lC m ps) {w1 : World} {m' : Nat} {ps' : List (Int × Int)} (ho : w1.ownsMap Try.prog 3 (plainElem Try.prog 3) bs m' (mapI ps')) (hg : w.grownBy w1 (some bs)) :
    ArB w1 n pa pm g cap E live vS vC bs bf lS lC m' ps' := by
  have T : Turn (fun k => k = bs) w w1 := Turn.of_grown hg (fun k hk => .inl (Option.some.inj hk).symm)
  exact ⟨T.heap h.ha (fun e => h.s_ne.1 e.symm), ⟨T.heap h.mem.hm (fun e => h.s_ne.2.1 e.symm), T.heap h.mem.hg (fun e => h.s_ne.2.2 e.symm), h.mem.hne, h.mem.hpm, h.mem.hgn, h.mem.hlen, h.mem.hcap, h.mem.hpos⟩,
    T.row h.hS (fun k hk e => (h.S_ne k hk).2.2.2.1 e), T.row h.hC (fun k hk e => (h.C_ne k hk).2.2.2.1 e), ho, T.map h.hf (fun e => h.nsf e.symm), h.nSC, h.nsf, h.npa, h.nbs, h.nbf⟩
/-- live = .. -/
theorem ArB.setLive (h : ArB w n pa pm g cap E live vS vC bs bf lS lC m ps) (x : Int) : ArB (w.setCell ⟨pa, 1, none⟩ (.int .i64 x)) n pa pm g cap E x vS vC bs bf lS lC m ps := by
  have T2 : Turn (fun k => k = pa) w (w.setCell ⟨pa, 1, none⟩ (.int .i64 x)) := (Turn.refl _ _).setCell _ _ (.inl rfl)
  exact ⟨set_field h.ha _ rfl, ⟨T2.heap h.mem.hm (fun e => h.pa_pm e.symm), T2.heap h.mem.hg (fun e => h.pa_g e.symm), h.mem.hne, h.mem.hpm, h.mem.hgn, h.mem.hlen, h.mem.hcap, h.mem.hpos⟩,
    T2.row h.hS (fun k hk e => (h.S_ne k hk).1 e), T2.row h.hC (fun k hk e => (h.C_ne k hk).1 e), T2.map h.hs h.s_ne.1, T2.map h.hf h.f_ne.1, h.nSC, h.nsf, h.npa, h.nbs, h.nbf⟩
/-- the struct's cells -/
theorem ArB.cells (h : ArB w n pa pm g cap E live vS vC bs bf lS lC m ps) :
    w.cell? ⟨pa, 0, none⟩ = some (.int .i64 2097152) ∧ w.cell? ⟨pa, 1, none⟩ = some (.int .i64 live) ∧ w.cell? ⟨pa, 2, none⟩ = some (.pointer (some ⟨pm, 0, none⟩)) ∧ w.cell? ⟨pa, 3, none⟩ = some vS ∧ w.cell? ⟨pa, 4, none⟩ = some vC ∧
    w.cell? ⟨pa, 5, none⟩ = some (.map (some bs)) ∧ w.cell? ⟨pa, 6, none⟩ = some (.map (some bf)) ∧ ∀ i, w.frozen? ⟨pa, i, none⟩ = false := by
  refine ⟨?_, ?_, ?_, ?_, ?_, ?_, ?_, fun i => ?_⟩
  all_goals first | (simp [World.cell?, h.ha]; done) | simp [World.frozen?, h.ha]
end
/-- an arena with these classes of blocks, all live; its blocks are among F -/
def ArZ (w : World) (n pa : Nat) (cls : List Int) (F : Nat → Prop) : Prop :=
  ∃ pm g cap vS vC bs bf, ArB w n pa pm g cap (16 + sumI cls).toNat (sumI cls) vS vC bs bf (offs cls) cls cls.length (pairs 16 cls) ∧ (∀ k, arF pa pm g vS vC bs bf k → F k) ∧ (∀ c ∈ cls, 16 ≤ c) ∧ sumI cls ≤ 2097152

theorem free_look {w : World} {bf : Nat} (h : w.ownsMap Try.prog 3 nilElem bf 0 (.map [])) (c : Int) (hc : (Lit.int .i64 c).wf = true) :
    (Instr.lookup 60 (.map (some bf)) (.int .i64 c) false).run Try.prog w = .ok (.slice none 0 0) w := by
  obtain ⟨v, ps, hr, hv⟩ := h.lookup key3 Try.underlying60 (zero22 _) (show nilElem (.slice none 0 0) = some (.nil, []) from rfl) (keyOf_int_mk Try.underlying3 hc)
  rw [nilElem_inv hv] at hr
  exact hr

theorem end_call {w : World} {n pa pm g len cap : Nat} {cs : Array Value} (ha : w.heap[pa]? = some (.cells cs 62 (0, 0))) (h2 : cs[2]? = some (.pointer (some ⟨pm, 0, none⟩))) (hm : MemZ w n pm g len cap) :
    Calls Try.prog 42 #[.pointer (some ⟨pa, 0, none⟩)] w fun e w' => e = .returned (.int .i64 len) ∧ w = w' := by
  have c2 : w.cell? ⟨pa, 2, none⟩ = some (.pointer (some ⟨pm, 0, none⟩)) := by simp [World.cell?, ha, h2]
  have hl := len_call w n pm g len cap hm
  have HL := Lib.hid hl
  clear ha h2 hm hl
  go_enter Try.func42, Try.ntmps42
  go_wp2_with fail
  refine HL.out.mono ?_
  rintro e w' ⟨rfl, rfl⟩
  go_wp2_with fail
  go_ret
  exact ⟨rfl, rfl⟩
end Go.Proofs.Ytccblcnjeekhbaa
/- (*Arena).take, for an arena whose blocks are all live. -/
namespace Go.Proofs.Ytccblcnjeekhbaa
open Go.RowKit Go.Maps
open Go.Proofs.YtccblcnjeekhbaaW.PrintWords (print_append_num nums own_slice)
set_option linter.unusedVariables false
set_option linter.unusedSimpArgs false

theorem grow_int (w : World) (n pm g len cap : Nat) (sz : Int) (hn : n ≤ w.heap.size) (h : MemZ w n pm g len cap) (h1 : (len : Int) < sz) (h3 : sz ≤ 67108864) :
    Calls Try.prog 44 #[.pointer (some ⟨pm, 0, none⟩), .int .i64 sz] w (GrowPost w n pm g sz.toNat) := by
  have := grow_call w n pm g len cap sz.toNat hn h (by omega) (by omega)
  rwa [Int.toNat_of_nonneg (by omega)] at this

def TakePost (w : World) (n pa : Nat) (cls : List Int) (c : Int) (F : Nat → Prop) (e : Ending) (w' : World) : Prop :=
  e = .returned (.tuple #[.int .i64 (16 + sumI cls), .int .i64 0]) ∧ ArZ w' n pa (cls ++ [c]) (fun k => F k ∨ (w.heap.size ≤ k ∧ k < w'.heap.size)) ∧ Turn F w w'

theorem sumI_nonneg : ∀ (l : List Int), (∀ c ∈ l, 16 ≤ c) → 0 ≤ sumI l
  | [], _ => by simp [sumI]
  | c :: l, h => by
    have := sumI_nonneg l (fun d hd => h d (List.mem_cons_of_mem _ hd))
    have := h c (List.mem_cons_self ..)
    simp only [sumI]; omega

theorem foot_S {pa pm g : Nat} {vS vC v1 : Value} {bs bf : Nat} {F : Nat → Prop} {w : World} (h : ∀ k, arF pa pm g vS vC bs bf k → F k ∨ w.heap.size ≤ k) {w1 : World} (hw : w.heap.size ≤ w1.heap.size)
    (hat : v1.ownBlock = vS.ownBlock ∨ ∃ b, v1.ownBlock = some b ∧ w1.heap.size ≤ b) : ∀ k, arF pa pm g v1 vC bs bf k → F k ∨ w.heap.size ≤ k := by
  intro k hk
  rcases hk with hk | hk | hk | hk | hk | hk | hk
  · exact h k (.inl hk)
  · exact h k (.inr (.inl hk))
  · exact h k (.inr (.inr (.inl hk)))
  · rcases hat with hat | ⟨b, hb, hlt⟩
    · exact h k (.inr (.inr (.inr (.inl (hat ▸ hk)))))
    · rw [hb] at hk; cases hk; exact .inr (by omega)
  · exact h k (.inr (.inr (.inr (.inr (.inl hk)))))
  · exact h k (.inr (.inr (.inr (.inr (.inr (.inl hk))))))
  · exact h k (.inr (.inr (.inr (.inr (.inr (.inr hk))))))
theorem foot_C {pa pm g : Nat} {vS vC v1 : Value} {bs bf : Nat} {F : Nat → Prop} {w : World} (h : ∀ k, arF pa pm g vS vC bs bf k → F k ∨ w.heap.size ≤ k) {w1 : World} (hw : w.heap.size ≤ w1.heap.size)
    (hat : v1.ownBlock = vC.ownBlock ∨ ∃ b, v1.ownBlock = some b ∧ w1.heap.size ≤ b) : ∀ k, arF pa pm g vS v1 bs bf k → F k ∨ w.heap.size ≤ k := by
  intro k hk
  rcases hk with hk | hk | hk | hk | hk | hk | hk
  · exact h k (.inl hk)
  · exact h k (.inr (.inl hk))
  · exact h k (.inr (.inr (.inl hk)))
  · exact h k (.inr (.inr (.inr (.inl hk))))
  · rcases hat with hat | ⟨b, hb, hlt⟩
    · exact h k (.inr (.inr (.inr (.inr (.inl (hat ▸ hk))))))
    · rw [hb] at hk; cases hk; exact .inr (by omega)
  · exact h k (.inr (.inr (.inr (.inr (.inr (.inl hk))))))
  · exact h k (.inr (.inr (.inr (.inr (.inr (.inr hk))))))
theorem foot_g {pa pm g g' : Nat} {vS vC : Value} {bs bf : Nat} {F : Nat → Prop} {w : World} (h : ∀ k, arF pa pm g vS vC bs bf k → F k ∨ w.heap.size ≤ k) (hg : g' = g ∨ w.heap.size ≤ g') : ∀ k, arF pa pm g' vS vC bs bf k → F k ∨ w.heap.size ≤ k := by
  intro k hk
  rcases hk with hk | hk | hk | hk
  · exact h k (.inl hk)
  · exact h k (.inr (.inl hk))
  · subst hk
    rcases hg with hg | hg
    · exact h _ (.inr (.inr (.inl hg)))
    · exact .inr hg
  · exact h k (.inr (.inr (.inr hk)))
/-- all its blocks exist -/
theorem ArB.lt {w : World} {n pa pm g cap E : Nat} {live : Int} {vS vC : Value} {bs bf : Nat} {lS lC : List Int} {m : Nat} {ps : List (Int × Int)} (h : ArB w n pa pm g cap E live vS vC bs bf lS lC m ps) (k : Nat) (hk : arF pa pm g vS vC bs bf k) : k < w.heap.size := by
  have lt : ∀ {i : Nat} {o : Obj}, w.heap[i]? = some o → i < w.heap.size := fun hi => (Array.getElem?_eq_some_iff.1 hi).1
  rcases hk with rfl | rfl | rfl | hk | hk | rfl | rfl
  · exact lt h.ha
  · exact lt h.mem.hm
  · exact lt h.mem.hg
  · obtain ⟨_, hc⟩ := row_typed h.hS k hk; exact lt hc
  · obtain ⟨_, hc⟩ := row_typed h.hC k hk; exact lt hc
  · exact h.hs.lt
  · exact h.hf.lt

/-- behind the append, ahead of the store: the struct's cells are there -/
theorem app_cells {w w2 : World} {n pa pm g cap E : Nat} {live : Int} {vS vC : Value} {bs bf : Nat} {lS lC : List Int} {m : Nat} {ps : List (Int × Int)} (h : ArB w n pa pm g cap E live vS vC bs bf lS lC m ps) (hg : w.grownBy w2 vS.ownBlock) :
    w2.cell? ⟨pa, 3, none⟩ = some vS ∧ ∀ i, w2.frozen? ⟨pa, i, none⟩ = false := by
  have T : Turn (fun k => vS.ownBlock = some k) w w2 := Turn.of_grown hg (fun k hk => .inl hk)
  have ha1 := T.heap h.ha (fun hk => (h.S_ne _ hk).1 rfl)
  exact ⟨by simp [World.cell?, ha1], fun i => by simp [World.frozen?, ha1]⟩
theorem app_cellsC {w w2 : World} {n pa pm g cap E : Nat} {live : Int} {vS vC : Value} {bs bf : Nat} {lS lC : List Int} {m : Nat} {ps : List (Int × Int)} (h : ArB w n pa pm g cap E live vS vC bs bf lS lC m ps) (hg : w.grownBy w2 vC.ownBlock) :
    w2.cell? ⟨pa, 4, none⟩ = some vC ∧ ∀ i, w2.frozen? ⟨pa, i, none⟩ = false := by
  have T : Turn (fun k => vC.ownBlock = some k) w w2 := Turn.of_grown hg (fun k hk => .inl hk)
  have ha1 := T.heap h.ha (fun hk => (h.C_ne _ hk).1 rfl)
  exact ⟨by simp [World.cell?, ha1], fun i => by simp [World.frozen?, ha1]⟩

set_option maxRecDepth 100000 in
set_option maxHeartbeats 8000000 in
theorem take_call (w : World) (n pa : Nat) (cls : List Int) (F : Nat → Prop) (c : Int) (h : ArZ w n pa cls F) (hn : n ≤ w.heap.size) (c0 : 16 ≤ c) (c1 : sumI cls + c ≤ 2097152) (cn : cls.length ≤ 131072) :
    Calls Try.prog 29 #[.pointer (some ⟨pa, 0, none⟩), .int .i64 c] w (TakePost w n pa cls c F) := by
  obtain ⟨pm, g, cap, vS, vC, bs, bf, A, hF, hcl, hsum⟩ := h
  have hs0 := sumI_nonneg cls hcl
  obtain ⟨a0, a1, a2, a3, a4, a5, a6, af⟩ := A.cells
  have hlk := free_look A.hf c (WalkArith.wf_i64 (by omega))
  obtain ⟨E, hE⟩ : ∃ E : Nat, (16 + sumI cls).toNat = E := ⟨_, rfl⟩
  have hEI : 16 + sumI cls = (E : Int) := by omega
  have hM := A.mem
  rw [hE] at hM
  have hend := Lib.hid (end_call A.ha rfl hM)
  have hgr := Lib.hid (grow_int w n pm g E cap ((E : Int) + c) hn hM (by omega) (by omega))
  have hb1 : (E : Int) ≤ 2097168 := by omega
  have hb2 : c ≤ 2097152 := by omega
  have hkE := keyOf_int_mk (P := Try.prog) Try.underlying3 (q := .i64) (a := (E : Int)) (WalkArith.wf_i64 (by omega))
  have hwc := WalkArith.wf_i64 (n := c) (by omega)
  have hbs : -9223372036854775808 ≤ sumI cls + c ∧ sumI cls + c ≤ 9223372036854775807 := by omega
  have HE := Lib.hid hE
  have HEI := Lib.hid hEI
  have HM := Lib.hid hM
  have AA := Lib.hid A
  have HF := Lib.hid hF
  have HC := Lib.hid hcl
  have HS := Lib.hid hsum
  have HC1 := Lib.hid c1
  have AF := Lib.hid af
  clear hE hEI hM A hF hcl hsum c1 hs0 a0 a1 a3 a4 a5 af
  go_enter Try.func29, Try.ntmps29
  go_wp2_with fail
  refine hend.out.mono ?_
  rintro e w' ⟨rfl, rfl⟩
  go_wp2_with fail
  refine hgr.out.mono ?_
  rintro e w1 ⟨rfl, g1, cap1, M1, T1, hg1⟩
  clear hend hgr hlk a2 a6
  have A1 := Lib.hid (AA.out.grown T1 M1)
  have F1 := Lib.hid (foot_g (fun k hk => .inl (HF.out k hk)) hg1)
  have hw1 := T1.size
  obtain ⟨a0, a1, a2, a3, a4, a5, a6, af⟩ := A1.out.cells
  have f3 := af 3
  have AF1 := Lib.hid af
  clear a0 a1 a2 a4 a5 a6 af
  go_upto_region 11 with (at_builtin; refine print_append_num (w0 := w1) (W := w1) n rfl (.tmp 52) (.tmp 54) 22 3 .i64 8 rfl Try.underlying22 info3 (by decide) vS (offs cls) E rfl rfl A1.out.hS (Below.refl _ _) (by omega) (by rw [offs_length]; omega) ?_; intro v1 w2 ho hB hg hat; have A2 := A1.out.addS ho hg hat; have TA := Lib.hid (Turn.setCell (F := fun k => vS.ownBlock = some k ∨ k = pa) (Turn.of_grown hg (fun k hk => .inl (.inl hk))) ⟨pa, 3, none⟩ v1 (.inl (.inr rfl))); have F2 := Lib.hid (foot_S F1.out hw1 hat); have hx := app_cells A1.out hg; obtain ⟨q1, q2, hq⟩ := own_slice ho; subst hq; rw [List.length_append, List.length_singleton] at A2 F2 TA; have A2 := Lib.hid A2; obtain ⟨x3, y3⟩ := hx; have y3 := y3 3; clear hB hg hat ho a3 f3)
  generalize hv1 : Value.slice q1 ((offs cls).length + 1) q2 = v1 at *
  generalize w2.setCell ⟨pa, 3, none⟩ v1 = w3 at *
  clear hv1 x3 y3
  obtain ⟨a0, a1, a2, a3, a4, a5, a6, af⟩ := A2.out.cells
  have f4 := af 4
  clear a0 a1 a2 a3 a5 a6 af
  have hw3 := TA.out.size
  go_upto_region 12 with (at_builtin; refine print_append_num (w0 := w3) (W := w3) n rfl (.tmp 62) (.tmp 64) 22 3 .i64 8 rfl Try.underlying22 info3 (by decide) vC cls c rfl rfl A2.out.hC (Below.refl _ _) (by omega) (by omega) ?_; intro v2 w4 ho hB hg hat; have A3 := A2.out.addC ho hg hat; have TB := Lib.hid (Turn.setCell (F := fun k => vC.ownBlock = some k ∨ k = pa) (Turn.of_grown hg (fun k hk => .inl (.inl hk))) ⟨pa, 4, none⟩ v2 (.inl (.inr rfl))); have F3 := Lib.hid (foot_C F2.out (Nat.le_trans hw1 hw3) hat); have hx := app_cellsC A2.out hg; obtain ⟨q3, q4, hq⟩ := own_slice ho; subst hq; rw [List.length_append, List.length_singleton] at A3 F3 TB; have A3 := Lib.hid A3; obtain ⟨x3, y3⟩ := hx; have y3 := y3 4; clear hB hg hat ho a4 f4)
  generalize hv2 : Value.slice q3 (cls.length + 1) q4 = v2 at *
  generalize w4.setCell ⟨pa, 4, none⟩ v2 = w5 at *
  clear hv2 x3 y3
  obtain ⟨a0, a1, a2, a3, a4, a5, a6, af⟩ := A3.out.cells
  clear a0 a1 a2 a3 a4 a6 af
  go_upto_region 13 with (at_mapUpdate; refine wpList_mapUpdate_own _ rfl _ _ _ 59 rfl 3 3 key3 Try.underlying59 _ bs cls.length _ rfl A3.out.hs (by unfold maxLen; omega) _ _ _ rfl rfl hkE _ [] (plainElem_int Try.underlying3 hwc) ?_; intro w6 hown hgrow)
  rw [show (mapI (pairs 16 cls)).put (Lit.int .i64 (E : Int)) (DataW.lit (Lit.int .i64 c)) = mapI (pairs 16 cls ++ [((E : Int), c)]) from (mapI_snoc (pairs 16 cls) ((E : Int), c)).symm] at hown
  have A4 := Lib.hid (A3.out.put hown hgrow)
  have TC := Lib.hid (Turn.of_grown (F := fun k => k = bs) hgrow (fun k hk => .inl (Option.some.inj hk).symm))
  clear hown hgrow a5
  obtain ⟨a0, a1, a2, a3, a4, a5, a6, af⟩ := A4.out.cells
  have f1 := af 1
  clear a0 a2 a3 a4 a5 a6 af y3 A3 A2
  go_wp2_with fail
  go_ret2
  have A5 := A4.out.setLive (sumI cls + c)
  have TD : Turn (fun k => k = pa) w6 (w6.setCell ⟨pa, 1, none⟩ (.int .i64 (sumI cls + c))) := (Turn.refl _ _).setCell _ _ (.inl rfl)
  have hF := HF.out
  have U1 : Turn F w w1 := T1.mono (G := F) (fun k _ hk => hk.elim (fun e => hF k (.inr (.inl e))) (fun e => hF k (.inr (.inr (.inl e)))))
  have U2 : Turn F w w3 := U1.then TA.out (fun k hk => .inl (hk.elim (fun e => hF k (.inr (.inr (.inr (.inl e))))) (fun e => hF k (.inl e))))
  have U3 : Turn F w w5 := U2.then TB.out (fun k hk => .inl (hk.elim (fun e => hF k (.inr (.inr (.inr (.inr (.inl e)))))) (fun e => hF k (.inl e))))
  have U4 : Turn F w w6 := U3.then TC.out (fun k hk => .inl (hF k (.inr (.inr (.inr (.inr (.inr (.inl hk))))))))
  have T : Turn F w (w6.setCell ⟨pa, 1, none⟩ (.int .i64 (sumI cls + c))) := U4.then TD (fun k hk => .inl (hF k (.inl hk)))
  have eE : ((E : Int) + c).toNat = (16 + sumI (cls ++ [c])).toNat := by rw [sumI_snoc]; have := HEI.out; omega
  refine ⟨by rw [HEI.out]; rfl, ⟨pm, g1, cap1, v1, v2, bs, bf, ?_, fun k hk => ?_, ?_, ?_⟩, T⟩
  · rw [← eE, sumI_snoc, offs_snoc, pairs_snoc, HEI.out]
    have := A5
    rw [List.length_append, List.length_singleton]
    exact this
  · rcases F3.out k hk with h | h
    · exact .inl h
    · exact .inr ⟨h, A5.lt k hk⟩
  · intro d hd
    rcases List.mem_append.1 hd with h | h
    · exact HC.out d h
    · simp at h; omega
  · rw [sumI_snoc]; exact HC1.out
end Go.Proofs.Ytccblcnjeekhbaa
/- Class: the program's and the document's are one function. Plain Lean over the printed functions. -/
namespace Go.Proofs.Ytccblcnjeekhbaa
open Go.RowKit Go.Proofs.Ytccblcnjeekhbaa.PStoreHolds
set_option linter.unusedVariables false

def clsOf (n : Int) : Int := (arena_Class.f 18 n).getD 0

theorem wrap_ok {x : Int} (h : -9223372036854775808 ≤ x ∧ x ≤ 9223372036854775807) : wrap64 x = x := by unfold wrap64; omega

theorem cls_step (n : Int) (hn : n ≤ 1048576) : ∀ (d : Nat) (c : Int), c * 2 ^ d = 1048576 → (c = 16 ∧ 1 ≤ n ∨ c = 32 ∧ 16 < n ∨ 64 ≤ c ∧ c % 64 = 0 ∧ c / 2 < n) →
    ∃ r, arena_Class.l0 (d + 1) n c = some r ∧ (if c / 2 > 16 ∧ n ≤ 3 * (c / 4) then some (3 * (c / 4)) else larderref02_Class.l0 (d + 1) n c) = some r ∧ 16 ≤ r ∧ r ≤ 1048576 := by
  intro d
  induction d with
  | zero =>
    intro c hc h
    have hc' : c = 1048576 := by simpa using hc
    subst hc'
    have hA : arena_Class.l0 (0 + 1) n 1048576 = if (1048576 : Int) < n then none else if (262144 * 3 : Int) > 24 then (if n ≤ 262144 * 3 then some (262144 * 3) else some 1048576) else some 1048576 := by
      conv => lhs; rw [arena_Class.l0, show Int.tdiv 1048576 4 = 262144 from by decide, wrap_ok (x := 262144) (by omega), wrap_ok (x := 262144 * 3) (by omega)]
      rw [arena_Class.l0]
    have hR : larderref02_Class.l0 (0 + 1) n 1048576 = some 1048576 := by
      rw [larderref02_Class.l0, if_neg (by omega)]
    rw [hA, hR, if_neg (by omega), if_pos (by omega)]
    by_cases h1 : n ≤ 786432
    · rw [if_pos (by omega), if_pos ⟨by omega, by omega⟩]; exact ⟨_, rfl, rfl, by omega, by omega⟩
    · rw [if_neg (by omega), if_neg (by omega)]; exact ⟨_, rfl, rfl, by omega, by omega⟩
  | succ d ih =>
    intro c hc h
    have hp : (0 : Int) < 2 ^ (d + 1) := Int.pow_pos (by omega)
    have hc2 : 2 * c * 2 ^ d = 1048576 := by rw [Int.pow_succ] at hc; rw [← hc]; simp only [Int.mul_comm, Int.mul_assoc]
    have hle : 2 * c ≤ 1048576 := by
      have h1 : (1 : Int) ≤ 2 ^ d := by have := Int.pow_pos (n := 2) (m := d) (by omega); omega
      have h2 : 2 * c * 1 ≤ 2 * c * 2 ^ d := Int.mul_le_mul_of_nonneg_left h1 (by omega)
      omega
    have ht : Int.tdiv c 4 = c / 4 := Int.tdiv_eq_ediv_of_nonneg (by omega)
    have ht2 : Int.tdiv c 2 = c / 2 := Int.tdiv_eq_ediv_of_nonneg (by omega)
    by_cases hlt : c < n
    · obtain ⟨r, h1, h2, h3⟩ := ih (2 * c) hc2 (by omega)
      refine ⟨r, ?_, ?_, h3⟩
      · rw [arena_Class.l0, if_pos hlt, wrap_ok (by omega), Int.mul_comm]; exact h1
      · rw [if_neg (by omega), larderref02_Class.l0, if_pos (by omega), if_neg (by omega), ht2, wrap_ok (x := c / 2) (by omega), wrap_ok (x := 3 * (c / 2)) (by omega), wrap_ok (x := 2 * c) (by omega)]
        rw [show 2 * c / 2 = c by omega, show 2 * c / 4 = c / 2 by omega] at h2
        by_cases h16 : c > 16
        · rw [if_pos h16]
          by_cases hm : n ≤ 3 * (c / 2)
          · rw [if_pos hm]; rw [if_pos ⟨h16, hm⟩] at h2; exact h2
          · rw [if_neg hm]; rw [if_neg (by omega)] at h2; exact h2
        · rw [if_neg h16]; rw [if_neg (by omega)] at h2; exact h2
    · have hA : arena_Class.l0 (d + 1 + 1) n c = if c / 4 * 3 > 24 then (if n ≤ c / 4 * 3 then some (c / 4 * 3) else some c) else some c := by
        rw [arena_Class.l0, if_neg hlt, ht, wrap_ok (x := c / 4) (by omega), wrap_ok (x := c / 4 * 3) (by omega)]
      have hR : larderref02_Class.l0 (d + 1 + 1) n c = some c := by
        rw [larderref02_Class.l0, if_pos (by omega), if_pos (by omega)]
      rw [hA, hR]
      by_cases h64 : 64 ≤ c
      · rw [if_pos (by omega)]
        by_cases hm : n ≤ 3 * (c / 4)
        · rw [if_pos (by omega), if_pos ⟨by omega, hm⟩]; exact ⟨_, rfl, by rw [Int.mul_comm], by omega, by omega⟩
        · rw [if_neg (by omega), if_neg (by omega)]; exact ⟨_, rfl, rfl, by omega, by omega⟩
      · rw [if_neg (by omega), if_neg (by omega)]; exact ⟨_, rfl, rfl, by omega, by omega⟩

theorem cls_of (n : Int) (h1 : 1 ≤ n) (h2 : n ≤ 1048576) : arena_Class.f 18 n = some (clsOf n) ∧ larderref02_Class.f 18 n = some (clsOf n) ∧ 16 ≤ clsOf n ∧ clsOf n ≤ 1048576 := by
  obtain ⟨r, a, b, c, d⟩ := cls_step n h2 16 16 (by decide) (.inl ⟨rfl, h1⟩)
  have e1 : arena_Class.f 18 n = some r := by
    unfold arena_Class.f
    rw [if_neg (by omega), decide_eq_false (by omega), arena_Class.j0, if_neg (by decide)]; exact a
  have e2 : larderref02_Class.f 18 n = some r := by
    unfold larderref02_Class.f
    rw [if_neg (by omega), decide_eq_false (by omega), larderref02_Class.j0, if_neg (by decide)]
    rw [if_neg (by omega)] at b; exact b
  have e : clsOf n = r := by unfold clsOf; rw [e1]; rfl
  rw [e]; exact ⟨e1, e2, c, d⟩
theorem cls_none (n : Int) (h : n < 1 ∨ 1048576 < n) : arena_Class.f 18 n = some 0 ∧ larderref02_Class.f 18 n = some 0 := by
  unfold arena_Class.f larderref02_Class.f
  rcases h with h | h
  · rw [if_pos h, if_pos h, arena_Class.j0, larderref02_Class.j0, if_pos rfl, if_pos rfl]; exact ⟨rfl, rfl⟩
  · rw [if_neg (by omega), if_neg (by omega), decide_eq_true (by omega), arena_Class.j0, larderref02_Class.j0, if_pos rfl, if_pos rfl]; exact ⟨rfl, rfl⟩
end Go.Proofs.Ytccblcnjeekhbaa
/- (*Arena).AllocAll of one size, and Alloc, for an arena whose blocks are all live. -/
namespace Go.Proofs.Ytccblcnjeekhbaa
open Go.RowKit Go.Maps Go.Proofs.Ytccblcnjeekhbaa.PStoreHolds
open Go.Proofs.YtccblcnjeekhbaaW.PrintWords (print_append_num nums own_slice Drawn0)
set_option linter.unusedVariables false
set_option linter.unusedSimpArgs false

theorem class_call (x : Int) (h1 : 1 ≤ x) (h2 : x ≤ 1048576) (w : World) : Calls Try.prog 28 #[.int .i64 x] w fun e w' => e = .returned (.int .i64 (clsOf x)) ∧ ∃ k, w' = w.drewN k :=
  (arena_Class.calls 18 x _ w (cls_of x h1 h2).1).mono fun e w' h => ⟨h.1, h.2.out⟩
theorem class_zero (x : Int) (h : x < 1 ∨ 1048576 < x) (w : World) : Calls Try.prog 28 #[.int .i64 x] w fun e w' => e = .returned (.int .i64 0) ∧ ∃ k, w' = w.drewN k :=
  (arena_Class.calls 18 x _ w (cls_none x h).1).mono fun e w' h => ⟨h.1, h.2.out⟩

theorem mk01 (w : World) : (Instr.makeSlice 22 (.int .i64 0) (.int .i64 1)).run Try.prog w = .ok (.slice (some ⟨w.heap.size, 0, none⟩) 0 1) (w.alloc (.cells #[.int .i64 0] 3)) := by
  obtain ⟨i0, hi, hz0, hz1, hz2⟩ := info_parts info3
  have h := run_make (P := Try.prog) w 22 3 i0 (.int .i64 0) Try.underlying22 hi hz0 .i64 .i64 0 1 (by omega) (by omega) (by rw [hz2]; omega) (by omega)
  have e : madeCells (Value.int IntKind.i64 0).cells ((1 : Int).toNat * 1) = #[.int .i64 0] := by
    apply Array.ext
    · simp [madeCells]
    · intro i h1 h2
      simp only [List.size_toArray, List.length_cons, List.length_nil] at h2
      obtain rfl : i = 0 := by omega
      show (madeCells #[Value.int IntKind.i64 0] 1)[0] = _
      simp [madeCells]
  rw [hz1, e] at h
  exact h
theorem ArZ_kept {w w' : World} {n pa : Nat} {cls : List Int} {F G : Nat → Prop} (h : ArZ w n pa cls F) (T : Turn G w w') (hG : ∀ k, F k → ¬ G k) : ArZ w' n pa cls F := by
  obtain ⟨pm, g, cap, vS, vC, bs, bf, A, hF, r⟩ := h
  exact ⟨pm, g, cap, vS, vC, bs, bf, A.kept T (fun k hk => hG k (hF k hk)), hF, r⟩
theorem ArZ_mono {w : World} {n pa : Nat} {cls : List Int} {F G : Nat → Prop} (h : ArZ w n pa cls F) (hG : ∀ k, F k → G k) : ArZ w n pa cls G := by
  obtain ⟨pm, g, cap, vS, vC, bs, bf, A, hF, r⟩ := h
  exact ⟨pm, g, cap, vS, vC, bs, bf, A, fun k hk => hG k (hF k hk), r⟩
theorem ArZ_drewN {w : World} {n pa : Nat} {cls : List Int} {F : Nat → Prop} (h : ArZ w n pa cls F) (k : Nat) : ArZ (w.drewN k) n pa cls F := by
  obtain ⟨pm, g, cap, vS, vC, bs, bf, A, r⟩ := h
  exact ⟨pm, g, cap, vS, vC, bs, bf, A.kept ((Turn.refl (fun _ => False) w).drewN k) (fun _ _ h => h), r⟩

def NonePost (c : Int) (w : World) (e : Ending) (w' : World) : Prop := e = .returned (.tuple #[.slice none 0 0, .int .i64 c]) ∧ Turn (fun _ => False) w w'

set_option maxRecDepth 100000 in
set_option maxHeartbeats 4000000 in
theorem all_small (w : World) (pa b : Nat) (x : Int) (h : x < 1) (hb : w.cell? ⟨b, 0, none⟩ = some (.int .i64 x)) :
    Calls Try.prog 15 #[.pointer (some ⟨pa, 0, none⟩), .slice (some ⟨b, 0, none⟩) 1 1] w (NonePost 21 w) := by
  have T := Turn.refl (fun _ => False) w
  go_enter Try.func15, Try.ntmps15
  go_wp2_with fail
  refine wp_loop_rounds 1 ?_
  rw [rounds_succ]
  go_wp2_with fail
  go_ret2
  exact ⟨rfl, T⟩

set_option maxRecDepth 100000 in
set_option maxHeartbeats 4000000 in
theorem all_great (w : World) (pa b : Nat) (x : Int) (h : 1048576 < x) (hb : w.cell? ⟨b, 0, none⟩ = some (.int .i64 x)) :
    Calls Try.prog 15 #[.pointer (some ⟨pa, 0, none⟩), .slice (some ⟨b, 0, none⟩) 1 1] w (NonePost 22 w) := by
  have T := fun n => (Turn.refl (fun _ => False) w).drewN n
  have h1 : ¬ x < 1 := by omega
  have hc := Lib.hid (class_zero x (.inr h))
  have TT := Lib.hid T
  clear T
  go_enter Try.func15, Try.ntmps15
  go_wp2_with fail
  refine wp_loop_rounds 2 ?_
  rw [rounds_succ]
  go_wp2_with fail
  refine (hc.out _).mono ?_
  rintro e w1 ⟨rfl, k, rfl⟩
  go_wp2_with fail
  rw [rounds_succ]
  go_wp2_with fail
  go_quiet (fail)
  go_wp2_with fail
  go_ret2
  exact ⟨rfl, (TT.out k).drewN _⟩

-- there is no room
set_option maxRecDepth 100000 in
set_option maxHeartbeats 4000000 in
theorem all_full (w : World) (pa b : Nat) (x live : Int) (h1 : 1 ≤ x) (h2 : x ≤ 1048576) (hb : w.cell? ⟨b, 0, none⟩ = some (.int .i64 x)) (a0 : w.cell? ⟨pa, 0, none⟩ = some (.int .i64 2097152)) (a1 : w.cell? ⟨pa, 1, none⟩ = some (.int .i64 live))
    (l0 : 0 ≤ live) (l1 : live ≤ 2097152) (hf : 2097152 - live < clsOf x) :
    Calls Try.prog 15 #[.pointer (some ⟨pa, 0, none⟩), .slice (some ⟨b, 0, none⟩) 1 1] w (NonePost 22 w) := by
  have T := fun n => (Turn.refl (fun _ => False) w).drewN n
  have h3 : ¬ x < 1 := by omega
  have h4 : decide ((1048576 : Int) < x) = false := decide_eq_false (by omega)
  have hc := Lib.hid (class_call x h1 h2)
  have hd := cls_of x h1 h2
  generalize clsOf x = c at *
  have hd1 : 16 ≤ c := hd.2.2.1
  have hd2 : c ≤ 1048576 := hd.2.2.2
  have TT := Lib.hid T
  clear T hd
  go_enter Try.func15, Try.ntmps15
  go_wp2_with fail
  refine wp_loop_rounds 2 ?_
  rw [rounds_succ]
  go_wp2_with fail
  refine (hc.out _).mono ?_
  rintro e w1 ⟨rfl, k, rfl⟩
  go_wp2_with fail
  rw [rounds_succ]
  go_wp2_with fail
  have e1 : IntKind.i64.wrap (2097152 - live) = 2097152 - live := IntWalk.i64_in _ (by omega)
  have e2 : decide (2097152 - live < c) = true := decide_eq_true hf
  go_quiet (fail)
  clear e1 e2
  go_wp2_with fail
  go_ret2
  exact ⟨rfl, (TT.out k).drewN _⟩

def OnePost (w : World) (n pa : Nat) (cls : List Int) (c : Int) (F : Nat → Prop) (e : Ending) (w' : World) : Prop :=
  ∃ g cap, e = .returned (.tuple #[.slice (some ⟨g, 0, none⟩) 1 cap, .int .i64 0]) ∧ w'.cell? ⟨g, 0, none⟩ = some (.int .i64 (16 + sumI cls)) ∧
    ArZ w' n pa (cls ++ [c]) (fun k => F k ∨ (w.heap.size ≤ k ∧ k < w'.heap.size)) ∧ Turn F w w'

set_option maxRecDepth 100000 in
set_option maxHeartbeats 8000000 in
theorem all_one (w : World) (n pa b : Nat) (x : Int) (cls : List Int) (F : Nat → Prop) (h : ArZ w n pa cls F) (hn : n ≤ w.heap.size) (cn : cls.length ≤ 131072) (h1 : 1 ≤ x) (h2 : x ≤ 1048576) (hb : w.cell? ⟨b, 0, none⟩ = some (.int .i64 x)) (hF : ¬ F b) (hFl : ∀ k, F k → k < w.heap.size)
    (hfit : sumI cls + clsOf x ≤ 2097152) :
    Calls Try.prog 15 #[.pointer (some ⟨pa, 0, none⟩), .slice (some ⟨b, 0, none⟩) 1 1] w (OnePost w n pa cls (clsOf x) F) := by
  have l0 : 0 ≤ sumI cls := by obtain ⟨_, _, _, _, _, _, _, _, _, hcl, _⟩ := h; exact sumI_nonneg cls hcl
  obtain ⟨a0, a1⟩ : w.cell? ⟨pa, 0, none⟩ = some (.int .i64 2097152) ∧ w.cell? ⟨pa, 1, none⟩ = some (.int .i64 (sumI cls)) := by
    obtain ⟨_, _, _, _, _, _, _, A, _⟩ := h; exact ⟨A.cells.1, A.cells.2.1⟩
  have T := fun n => (Turn.refl F w).drewN n
  have h3 : ¬ x < 1 := by omega
  have h4 : decide ((1048576 : Int) < x) = false := decide_eq_false (by omega)
  have hc := Lib.hid (class_call x h1 h2)
  have hd := cls_of x h1 h2
  generalize clsOf x = c at *
  have hd1 : 16 ≤ c := hd.2.2.1
  have hd2 : c ≤ 1048576 := hd.2.2.2
  have TT := Lib.hid T
  have HZ := Lib.hid h
  have HFB := Lib.hid hF
  have HFL := Lib.hid hFl
  have HFIT := Lib.hid hfit
  obtain ⟨sm, hsm⟩ : ∃ sm, sm = sumI cls := ⟨_, rfl⟩
  rw [← hsm] at a1 l0 hfit
  have HSM := Lib.hid hsm
  clear T hd h hF hsm hFl
  have hmk := mk01
  go_enter Try.func15, Try.ntmps15
  go_wp2_with fail
  refine wp_loop_rounds 2 ?_
  rw [rounds_succ]
  go_wp2_with fail
  refine (hc.out _).mono ?_
  rintro e w1 ⟨rfl, k, rfl⟩
  go_wp2_with fail
  rw [rounds_succ]
  go_wp2_with fail
  have e1 : IntKind.i64.wrap (2097152 - sm) = 2097152 - sm := IntWalk.i64_in _ (by omega)
  have e2 : decide (2097152 - sm < c) = false := decide_eq_false (by omega)
  go_quiet (fail)
  clear e1 e2
  rename_i nq
  have T1 := Lib.hid ((TT.out k).drewN nq)
  have Z1 := Lib.hid (ArZ_drewN (ArZ_drewN HZ.out k) nq)
  have hb1 : ((w.drewN k).drewN nq).cell? ⟨b, 0, none⟩ = some (.int .i64 x) := hb
  have hs1 := Lib.hid (show ((w.drewN k).drewN nq).heap.size = w.heap.size from rfl)
  generalize (w.drewN k).drewN nq = w1 at *
  clear a0 a1
  have hbl : b < w1.heap.size := World.block_lt_of_cell? _ _ hb1
  have hb2 : (w1.alloc (.cells #[.int .i64 0] 3)).cell? ⟨b, 0, none⟩ = some (.int .i64 x) := Lib.cell?_alloc_some _ hb1
  go_wp2_with fail
  refine wp_loop_rounds 2 ?_
  rw [rounds_succ]
  go_wp2_with fail
  refine (hc.out _).mono ?_
  rintro e w2 ⟨rfl, k2, rfl⟩
  have Z2 := Lib.hid (ArZ_drewN (ArZ_kept Z1.out ((Turn.refl (fun _ => False) w1).alloc (.cells #[.int .i64 0] 3)) (fun _ _ h => h)) k2)
  have T2 := Lib.hid ((T1.out.alloc (.cells #[.int .i64 0] 3)).drewN k2)
  have O2 := Lib.hid (World.ownsRow_made (base := w1.heap.size) (e := 3) (size := 1) w1 #[.int .i64 0] 1 (Nat.le_refl _) (by unfold maxLen; omega) rfl)
  have S2 := Lib.hid (show ((w1.alloc (.cells #[.int .i64 0] 3)).drewN k2).heap.size = w1.heap.size + 1 by simp)
  go_wp2_with fail
  refine (take_call _ n pa cls F c Z2.out (by rw [S2.out]; have := hs1.out; omega) hd1 HFIT.out cn).mono ?_
  rintro e w3 ⟨rfl, Z3, T3⟩
  have Z3 := Lib.hid Z3
  have O3 := Lib.hid (T3.row (O2.out : ((w1.alloc (.cells #[.int .i64 0] 3)).drewN k2).ownsRow w1.heap.size 3 1 _ 0 []) (fun k hk hF => by have hk' : w1.heap.size = k := Option.some.inj hk; have := HFL.out _ hF; have := hs1.out; omega))
  have T3 := Lib.hid T3
  have S3 := Lib.hid (show w1.heap.size + 1 ≤ w3.heap.size from by have := T3.out.size; rw [S2.out] at this; exact this)
  generalize hE : 16 + sumI cls = E at *
  clear hb2 hb1
  go_wp2_with (at_builtin; refine print_append_num (w0 := w3) (W := w3) w1.heap.size rfl (.tmp 66) (.tmp 68) 22 3 .i64 8 rfl Try.underlying22 info3 (by decide) (.slice (some ⟨w1.heap.size, 0, none⟩) 0 1) [] E rfl rfl O3.out (Below.refl _ _) (by have := S3.out; omega) (by decide) ?_; intro v1 w4 ho hB hg hat; obtain ⟨g4, cap4, hv4, hbase4, hx4⟩ := ho.form (by simp); subst hv4; have HO := Lib.hid ho; have HG := Lib.hid hg; have HA := Lib.hid hat; clear ho hB hg hat hx4)
  rw [rounds_succ]
  go_wp2_with fail
  go_ret2
  have hg := HG.out
  have hs1' := hs1.out
  have TG : Turn (fun k => k = w1.heap.size) w3 w4 := Turn.of_grown hg (fun k hk => .inl (Option.some.inj hk).symm)
  have S2' := S2.out
  have S3' := S3.out
  have Z4 := ArZ_kept Z3.out TG (fun k hk e => by
    subst e
    rcases hk with h | ⟨h, _⟩
    · have := HFL.out _ h; omega
    · rw [S2'] at h; omega)
  have hT : Turn F w w4 := (T2.out.trans (T3.out.mono fun i _ hi => .inl hi)).then TG (fun i hi => .inr (by omega))
  refine ⟨g4, cap4, rfl, ?_, ArZ_mono Z4 (fun k hk => ?_), hT⟩
  · rw [hE]
    exact HO.out.cellAt 0 (by simp)
  · rcases hk with h | ⟨h, h'⟩
    · exact .inl h
    · rw [S2'] at h
      exact .inr ⟨by omega, Nat.lt_of_lt_of_le h' TG.size⟩
end Go.Proofs.Ytccblcnjeekhbaa
/- (*Arena).Alloc, for an arena whose blocks are all live. -/
namespace Go.Proofs.Ytccblcnjeekhbaa
open Go.RowKit Go.Maps Go.Proofs.Ytccblcnjeekhbaa.PStoreHolds
set_option linter.unusedVariables false
set_option linter.unusedSimpArgs false

def allocNext (cls : List Int) (x : Int) : List Int := if 1 ≤ x ∧ x ≤ 1048576 ∧ sumI cls + clsOf x ≤ 2097152 then cls ++ [clsOf x] else cls
def AllocPost (w : World) (n pa : Nat) (cls : List Int) (F : Nat → Prop) (e : Ending) (w' : World) : Prop :=
  (∃ a c, e = .returned (.tuple #[.int .i64 a, .int .i64 c])) ∧ ArZ w' n pa cls (fun k => F k ∨ (w.heap.size ≤ k ∧ k < w'.heap.size)) ∧ Turn F w w'

theorem ArZ_next {w w' : World} {n pa : Nat} {cls : List Int} {F G : Nat → Prop} (h : ArZ w n pa cls F) (T : Turn (fun _ => False) w w') : ArZ w' n pa cls (fun k => F k ∨ G k) :=
  ArZ_mono (ArZ_kept h T (fun _ _ h => h)) (fun k hk => .inl hk)
theorem turn_false {F : Nat → Prop} {w w' : World} (T : Turn (fun _ => False) w w') : Turn F w w' := T.mono (fun _ _ h => h.elim)

set_option maxRecDepth 100000 in
set_option maxHeartbeats 4000000 in
theorem alloc_none (w : World) (n pa : Nat) (x c : Int) (cls : List Int) (F : Nat → Prop) (h : ArZ w n pa cls F) (hc : (c == 0) = false)
    (ha : Calls Try.prog 15 #[.pointer (some ⟨pa, 0, none⟩), .slice (some ⟨w.heap.size, 0, none⟩) 1 1] (w.alloc (.cells #[.int .i64 x] 3)) (NonePost c (w.alloc (.cells #[.int .i64 x] 3)))) :
    Calls Try.prog 6 #[.pointer (some ⟨pa, 0, none⟩), .int .i64 x] w (AllocPost w n pa cls F) := by
  have HZ := Lib.hid h
  have HA := Lib.hid ha
  have hcn : (c != 0) = true := by rw [bne, hc]; rfl
  clear h ha
  go_enter Try.func6, Try.ntmps6
  go_wp2_with fail
  refine HA.out.mono ?_
  rintro e w1 ⟨rfl, T1⟩
  have T1 := Lib.hid T1
  go_wp2_with fail
  go_ret2
  have T : Turn (fun _ => False) w w1 := ((Turn.refl _ w).alloc _).trans (T1.out.mono fun _ _ h => h.elim)
  exact ⟨⟨0, c, rfl⟩, ArZ_next HZ.out T, turn_false T⟩

set_option maxRecDepth 100000 in
set_option maxHeartbeats 4000000 in
theorem alloc_some (w : World) (n pa : Nat) (x c : Int) (cls : List Int) (F : Nat → Prop) (hl : ∀ k, F k → k < w.heap.size)
    (ha : Calls Try.prog 15 #[.pointer (some ⟨pa, 0, none⟩), .slice (some ⟨w.heap.size, 0, none⟩) 1 1] (w.alloc (.cells #[.int .i64 x] 3)) (OnePost (w.alloc (.cells #[.int .i64 x] 3)) n pa cls c F)) :
    Calls Try.prog 6 #[.pointer (some ⟨pa, 0, none⟩), .int .i64 x] w (AllocPost w n pa (cls ++ [c]) F) := by
  have HA := Lib.hid ha
  have HL := Lib.hid hl
  clear ha hl
  go_enter Try.func6, Try.ntmps6
  go_wp2_with fail
  refine HA.out.mono ?_
  rintro e w1 ⟨g, cap, rfl, hcell, Z1, T1⟩
  have T1 := Lib.hid T1
  have Z1 := Lib.hid Z1
  obtain ⟨E, hE⟩ : ∃ E, 16 + sumI cls = E := ⟨_, rfl⟩
  rw [hE] at hcell
  clear hE
  go_wp2_with fail
  go_ret2
  have T : Turn F w w1 := ((Turn.refl _ w).alloc _).trans (T1.out.mono fun _ _ h => .inl h)
  refine ⟨⟨E, 0, rfl⟩, ArZ_mono Z1.out (fun k hk => ?_), T⟩
  rcases hk with h | ⟨h, h'⟩
  · exact .inl h
  · exact .inr ⟨by simp at h; omega, h'⟩

theorem alloc_call (w : World) (n pa : Nat) (x : Int) (cls : List Int) (F : Nat → Prop) (h : ArZ w n pa cls F) (hn : n ≤ w.heap.size) (cn : cls.length ≤ 131072) (hl : ∀ k, F k → k < w.heap.size) :
    Calls Try.prog 6 #[.pointer (some ⟨pa, 0, none⟩), .int .i64 x] w (AllocPost w n pa (allocNext cls x) F) := by
  have hb : (w.alloc (.cells #[.int .i64 x] 3)).cell? ⟨w.heap.size, 0, none⟩ = some (.int .i64 x) := by
    have := alloc_new w (.cells #[.int .i64 x] 3)
    simp only [World.cell?, this]; rfl
  have Z : ArZ (w.alloc (.cells #[.int .i64 x] 3)) n pa cls F := ArZ_kept h ((Turn.refl (fun _ => False) w).alloc _) (fun _ _ h => h)
  by_cases h1 : 1 ≤ x
  · by_cases h2 : x ≤ 1048576
    · by_cases h3 : sumI cls + clsOf x ≤ 2097152
      · have e : allocNext cls x = cls ++ [clsOf x] := by unfold allocNext; rw [if_pos ⟨h1, h2, h3⟩]
        rw [e]
        exact alloc_some w n pa x (clsOf x) cls F hl (all_one _ n pa w.heap.size x cls F Z (by simp; omega) cn h1 h2 hb (fun hF => by have := hl _ hF; omega) (fun k hk => by have := hl k hk; simp; omega) h3)
      · have e : allocNext cls x = cls := by unfold allocNext; rw [if_neg (fun hh => h3 hh.2.2)]
        rw [e]
        have hs : 0 ≤ sumI cls ∧ sumI cls ≤ 2097152 := by obtain ⟨_, _, _, _, _, _, _, _, _, hcl, hs⟩ := h; exact ⟨sumI_nonneg cls hcl, hs⟩
        obtain ⟨a0, a1⟩ : (w.alloc (.cells #[.int .i64 x] 3)).cell? ⟨pa, 0, none⟩ = some (.int .i64 2097152) ∧ (w.alloc (.cells #[.int .i64 x] 3)).cell? ⟨pa, 1, none⟩ = some (.int .i64 (sumI cls)) := by
          obtain ⟨_, _, _, _, _, _, _, A, _⟩ := Z; exact ⟨A.cells.1, A.cells.2.1⟩
        exact alloc_none w n pa x 22 cls F h rfl (all_full _ pa w.heap.size x (sumI cls) h1 h2 hb a0 a1 hs.1 hs.2 (by omega))
    · have e : allocNext cls x = cls := by unfold allocNext; rw [if_neg (fun hh => h2 hh.2.1)]
      rw [e]
      exact alloc_none w n pa x 22 cls F h rfl (all_great _ pa w.heap.size x (by omega) hb)
  · have e : allocNext cls x = cls := by unfold allocNext; rw [if_neg (fun hh => h1 hh.1)]
    rw [e]
    exact alloc_none w n pa x 21 cls F h rfl (all_small _ pa w.heap.size x (by omega) hb)
end Go.Proofs.Ytccblcnjeekhbaa
/- mem.New(16), arena.New(1 << 21). -/
namespace Go.Proofs.Ytccblcnjeekhbaa
open Go.RowKit Go.Maps
open Go.Proofs.YtccblcnjeekhbaaW.PrintWords (nums)
set_option linter.unusedVariables false
set_option linter.unusedSimpArgs false

abbrev memW (w : World) : World := (w.alloc (.cells (zb 16) 5)).alloc (.cells #[.slice (some ⟨w.heap.size, 0, none⟩) 16 16] 97)
theorem mk16 (w : World) : (Instr.makeSlice 95 (.int .i64 16) (.int .i64 16)).run Try.prog w = .ok (.slice (some ⟨w.heap.size, 0, none⟩) 16 16) (w.alloc (.cells (zb 16) 5)) := by
  obtain ⟨i0, hi, hz0, hz1, hz2⟩ := info_parts info5
  have h := run_make (P := Try.prog) w 95 5 i0 (.int .u8 0) Try.underlying95 hi hz0 .i64 .i64 16 16 (by omega) (by omega) (by rw [hz2]; omega) (by omega)
  rw [hz1] at h
  have e : madeCells (Value.int IntKind.u8 0).cells ((16 : Int).toNat * 1) = zb 16 := zb_made 16
  rw [e] at h
  exact h

theorem mem_new (w : World) : Calls Try.prog 14 #[.int .i64 16] w fun e w' => e = .returned (.tuple #[.pointer (some ⟨w.heap.size + 1, 0, none⟩), .int .i64 0]) ∧ w' = memW w := by
  have hmk := mk16
  unfold memW
  generalize zb 16 = Z at *
  go_enter Try.func14, Try.ntmps14
  go_wp2_with fail
  go_ret2
  exact ⟨rfl, rfl⟩

/-- the new arena's parts -/
theorem new_arB (w1 : World) (n g pm : Nat) (hg : n ≤ g) (hpm : n ≤ pm) (hn : n ≤ w1.heap.size) (g1 : w1.heap[g]? = some (.cells (zb 16) 5 (0, 0))) (m1 : w1.heap[pm]? = some (.cells #[.slice (some ⟨g, 0, none⟩) 16 16] 97 (0, 0))) :
    ArB (((w1.alloc (.map #[] 0)).alloc (.map #[] 0)).alloc (.cells #[.int .i64 2097152, .int .i64 0, .pointer (some ⟨pm, 0, none⟩), .slice none 0 0, .slice none 0 0, .map (some w1.heap.size), .map (some (w1.heap.size + 1))] 62))
      n (w1.heap.size + 1 + 1) pm g 16 (16 + sumI []).toNat (sumI []) (.slice none 0 0) (.slice none 0 0) w1.heap.size (w1.heap.size + 1) (offs []) [] ([] : List Int).length (pairs 16 []) := by
  have s1 : (w1.alloc (.map #[] 0)).heap.size = w1.heap.size + 1 := by simp
  have s2 : ((w1.alloc (.map #[] 0)).alloc (.map #[] 0)).heap.size = w1.heap.size + 1 + 1 := by simp
  have a := alloc_new ((w1.alloc (.map #[] 0)).alloc (.map #[] 0)) (.cells #[.int .i64 2097152, .int .i64 0, .pointer (some ⟨pm, 0, none⟩), .slice none 0 0, .slice none 0 0, .map (some w1.heap.size), .map (some (w1.heap.size + 1))] 62)
  rw [s2] at a
  have b := World.ownsMap_made (H := Unit) w1 Try.prog 3 (plainElem Try.prog 3)
  have c := World.ownsMap_made (H := Unit) (w1.alloc (.map #[] 0)) Try.prog 3 nilElem
  rw [s1] at c
  refine ⟨a, ⟨alloc_old (alloc_old (alloc_old m1 _) _) _, alloc_old (alloc_old (alloc_old g1 _) _) _, ?_, hpm, hg, by decide, by decide, by decide⟩, World.ownsRow_nil _ _ _ _, World.ownsRow_nil _ _ _ _, (b.alloc _).alloc _, c.alloc _, fun k hk => (by cases hk), by omega, by omega, hn, by omega⟩
  exact ne_heap m1 g1 (ne_type (by decide))

def NewPost (w : World) (n : Nat) (e : Ending) (w' : World) : Prop :=
  ∃ pa, e = .returned (.tuple #[.pointer (some ⟨pa, 0, none⟩), .int .i64 0]) ∧ ArZ w' n pa [] (fun k => w.heap.size ≤ k ∧ k < w'.heap.size) ∧ Turn (fun _ => False) w w'

set_option maxRecDepth 100000 in
theorem arena_new (w : World) (n : Nat) (hn : n ≤ w.heap.size) : Calls Try.prog 4 #[.int .i64 2097152] w (NewPost w n) := by
  have hm := Lib.hid (mem_new w)
  have hmm := @run_makeMap Try.prog
  have HN := Lib.hid hn
  clear hn
  go_enter Try.func4, Try.ntmps4
  go_wp2_with fail
  refine hm.out.mono ?_
  rintro e w1 ⟨rfl, hw1⟩
  have H1 := Lib.hid hw1
  have hs1 := Lib.hid (show w1.heap.size = w.heap.size + 2 by rw [hw1]; simp [memW])
  clear hw1
  go_wp2_with fail
  go_ret2
  have e1 := hs1.out
  have hw := H1.out
  have g1 : w1.heap[w.heap.size]? = some (.cells (zb 16) 5 (0, 0)) := by rw [hw]; exact alloc_old (alloc_new _ _) _
  have m1 : w1.heap[w.heap.size + 1]? = some (.cells #[.slice (some ⟨w.heap.size, 0, none⟩) 16 16] 97 (0, 0)) := by
    rw [hw]
    have := alloc_new (w.alloc (.cells (zb 16) 5)) (.cells #[.slice (some ⟨w.heap.size, 0, none⟩) 16 16] 97)
    rwa [show (w.alloc (.cells (zb 16) 5)).heap.size = w.heap.size + 1 by simp] at this
  have T1 : Turn (fun _ => False) w w1 := by rw [hw]; exact ((Turn.refl _ w).alloc _).alloc _
  have A := new_arB w1 n w.heap.size (w.heap.size + 1) HN.out (by have := HN.out; omega) (by have := HN.out; omega) g1 m1
  refine ⟨_, rfl, ⟨w.heap.size + 1, w.heap.size, 16, .slice none 0 0, .slice none 0 0, w1.heap.size, w1.heap.size + 1, A, fun k hk => ?_, by simp, by decide⟩, ((T1.alloc _).alloc _).alloc _⟩
  have hs : (((w1.alloc (.map #[] 0)).alloc (.map #[] 0)).alloc (.cells #[.int .i64 2097152, .int .i64 0, .pointer (some ⟨w.heap.size + 1, 0, none⟩), .slice none 0 0, .slice none 0 0, .map (some w1.heap.size), .map (some (w1.heap.size + 1))] 62)).heap.size = w.heap.size + 5 := by simp; omega
  rw [hs]
  rcases hk with rfl | rfl | rfl | hk | hk | rfl | rfl
  · omega
  · omega
  · omega
  · cases hk
  · cases hk
  · omega
  · omega
end Go.Proofs.Ytccblcnjeekhbaa
