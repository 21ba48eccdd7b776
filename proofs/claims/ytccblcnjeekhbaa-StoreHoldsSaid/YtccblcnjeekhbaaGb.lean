/- The document's arena (larderref02) whose blocks are all live: what it is in memory; New, Live, find, Size. -/
import Derived.Test.YtccblcnjeekhbaaGa
import Derived.Laws.OwnMore
import Derived.Deep.LoopGhost
import Derived.LoopN
import Derived.Deep.RegionLaw
import Derived.Maps.AppendAt
import Derived.Deep.DeepCutAuto
namespace Go.Proofs.Ytccblcnjeekhbaa
open Go.RowKit Go.Maps
set_option linter.unusedVariables false
set_option linter.unusedSimpArgs false

/-- a block: offset, bytes, and where its bytes lie -/
abbrev Blk := Int × Nat × Nat
def blkV (x : Blk) : List Value := [.int .i64 x.1, .bool true, .slice (some ⟨x.2.2, 0, none⟩) x.2.1 x.2.1]
def cellsR : List Blk → List Value
  | [] => []
  | x :: l => blkV x ++ cellsR l
theorem cellsR_length : ∀ l, (cellsR l).length = l.length * 3
  | [] => rfl
  | x :: l => by rw [cellsR, List.length_append, cellsR_length l]; simp [blkV]; omega
theorem cellsR_append : ∀ l m, cellsR (l ++ m) = cellsR l ++ cellsR m
  | [], _ => rfl
  | x :: l, m => by rw [List.cons_append, cellsR, cellsR, cellsR_append l m, List.append_assoc]
theorem cellsR_get : ∀ (l : List Blk) (i j : Nat) (h : i < l.length), j < 3 → (cellsR l)[i * 3 + j]? = (blkV l[i])[j]?
  | x :: l, 0, j, _, hj => by
    rw [cellsR, Nat.zero_mul, Nat.zero_add, List.getElem?_append_left (by simp [blkV]; omega)]; rfl
  | x :: l, i + 1, j, h, hj => by
    rw [cellsR, List.getElem?_append_right (by simp [blkV]; omega)]
    have e : (i + 1) * 3 + j - (blkV x).length = i * 3 + j := by simp [blkV]; omega
    rw [e, cellsR_get l i j (by simpa using h) hj]; rfl

structure RefB (w : World) (n pr : Nat) (vA : Value) (bl : List Blk) (cls : List Int) : Prop where
  hr : w.heap[pr]? = some (.cells #[.int .i64 2097152, .int .i64 (16 + sumI cls), vA] 65 (0, 0))
  hA : w.ownsRow n 108 3 vA bl.length (cellsR bl)
  hp : bl.map (fun x => (x.1, (x.2.1 : Int))) = pairs 16 cls
  npr : n ≤ pr
def refF (pr : Nat) (vA : Value) (k : Nat) : Prop := k = pr ∨ vA.ownBlock = some k
def RefZ (w : World) (n pr : Nat) (cls : List Int) (G : Nat → Prop) : Prop :=
  ∃ vA bl, RefB w n pr vA bl cls ∧ (∀ k, refF pr vA k → G k) ∧ (∀ c ∈ cls, 16 ≤ c) ∧ sumI cls ≤ 2097152 ∧ cls.length ≤ 131072

theorem RefB.len {w : World} {n pr : Nat} {vA : Value} {bl : List Blk} {cls : List Int} (h : RefB w n pr vA bl cls) : bl.length = cls.length := by
  have := congrArg List.length h.hp
  rwa [List.length_map, pairs_length] at this
theorem RefB.kept {w w' : World} {n pr : Nat} {vA : Value} {bl : List Blk} {cls : List Int} (h : RefB w n pr vA bl cls) {G : Nat → Prop} (T : Turn G w w') (hG : ∀ k, refF pr vA k → ¬ G k) : RefB w' n pr vA bl cls :=
  ⟨T.heap h.hr (hG _ (.inl rfl)), T.row h.hA (fun k hk => hG _ (.inr hk)), h.hp, h.npr⟩
theorem RefZ_kept {w w' : World} {n pr : Nat} {cls : List Int} {F G : Nat → Prop} (h : RefZ w n pr cls F) (T : Turn G w w') (hG : ∀ k, F k → ¬ G k) : RefZ w' n pr cls F := by
  obtain ⟨vA, bl, A, hF, r⟩ := h
  exact ⟨vA, bl, A.kept T (fun k hk => hG k (hF k hk)), hF, r⟩
theorem RefZ_mono {w : World} {n pr : Nat} {cls : List Int} {F G : Nat → Prop} (h : RefZ w n pr cls F) (hG : ∀ k, F k → G k) : RefZ w n pr cls G := by
  obtain ⟨vA, bl, A, hF, r⟩ := h
  exact ⟨vA, bl, A, fun k hk => hG k (hF k hk), r⟩
theorem RefB.cells {w : World} {n pr : Nat} {vA : Value} {bl : List Blk} {cls : List Int} (h : RefB w n pr vA bl cls) :
    w.cell? ⟨pr, 0, none⟩ = some (.int .i64 2097152) ∧ w.cell? ⟨pr, 1, none⟩ = some (.int .i64 (16 + sumI cls)) ∧ w.cell? ⟨pr, 2, none⟩ = some vA ∧ ∀ i, w.frozen? ⟨pr, i, none⟩ = false := by
  refine ⟨?_, ?_, ?_, fun i => ?_⟩
  all_goals first | (simp [World.cell?, h.hr]; done) | simp [World.frozen?, h.hr]
/-- the list's cells: of block i the offset, the mark, the bytes -/
theorem RefB.row {w : World} {n pr : Nat} {vA : Value} {bl : List Blk} {cls : List Int} (h : RefB w n pr vA bl cls) (h0 : 0 < bl.length) :
    ∃ gA cap, vA = .slice (some ⟨gA, 0, none⟩) bl.length cap ∧ ∀ i (hi : i < bl.length), w.cell? ⟨gA, i * 3, none⟩ = some (.int .i64 bl[i].1) ∧ w.cell? ⟨gA, i * 3 + 1, none⟩ = some (.bool true) ∧
      w.cell? ⟨gA, i * 3 + 2, none⟩ = some (.slice (some ⟨bl[i].2.2, 0, none⟩) bl[i].2.1 bl[i].2.1) := by
  obtain ⟨gA, cap, hv, _, _⟩ := h.hA.form h0
  subst hv
  refine ⟨gA, cap, rfl, fun i hi => ⟨?_, ?_, ?_⟩⟩
  · have := h.hA.cellAt (i * 3 + 0) (by omega)
    rw [cellsR_get bl i 0 hi (by decide)] at this; exact this
  · have := h.hA.cellAt (i * 3 + 1) (by omega)
    rw [cellsR_get bl i 1 hi (by decide)] at this; exact this
  · have := h.hA.cellAt (i * 3 + 2) (by omega)
    rw [cellsR_get bl i 2 hi (by decide)] at this; exact this
/-- the lengths add up -/
def lens (l : List Blk) : Int := sumI (l.map fun x => (x.2.1 : Int))
theorem sumI_pairs : ∀ (cls : List Int) (s : Int), sumI ((pairs s cls).map (·.2)) = sumI cls
  | [], _ => rfl
  | c :: l, s => by simp only [pairs, List.map_cons, sumI]; rw [sumI_pairs l]
theorem RefB.lens {w : World} {n pr : Nat} {vA : Value} {bl : List Blk} {cls : List Int} (h : RefB w n pr vA bl cls) : lens bl = sumI cls := by
  have := congrArg (fun l => sumI (l.map (·.2))) h.hp
  simp only [List.map_map] at this
  rw [sumI_pairs] at this
  exact this
theorem lens_take (l : List Blk) (k : Nat) (h : k < l.length) : lens (l.take (k + 1)) = lens (l.take k) + l[k].2.1 := by
  unfold Ytccblcnjeekhbaa.lens
  rw [List.take_succ_eq_append_getElem h, List.map_append, List.map_cons, List.map_nil, sumI_snoc]
theorem lens_nonneg (l : List Blk) : 0 ≤ Ytccblcnjeekhbaa.lens l := by
  unfold Ytccblcnjeekhbaa.lens
  induction l with
  | nil => simp [sumI]
  | cons x l ih => simp only [List.map_cons, sumI]; omega
theorem lens_take_le (l : List Blk) (k : Nat) : Ytccblcnjeekhbaa.lens (l.take k) ≤ Ytccblcnjeekhbaa.lens l := by
  have h : Ytccblcnjeekhbaa.lens l = Ytccblcnjeekhbaa.lens (l.take k) + Ytccblcnjeekhbaa.lens (l.drop k) := by
    conv => lhs; rw [← List.take_append_drop k l]
    unfold Ytccblcnjeekhbaa.lens
    rw [List.map_append]
    generalize (l.take k).map _ = a
    generalize (l.drop k).map _ = b
    induction a with
    | nil => simp [sumI]
    | cons x a ih => simp only [List.cons_append, sumI, ih]; omega
  have := lens_nonneg (l.drop k)
  omega
end Go.Proofs.Ytccblcnjeekhbaa
/- The document's arena: Live, find, Size, walked. -/
namespace Go.Proofs.Ytccblcnjeekhbaa
open Go.RowKit Go.Maps
set_option linter.unusedVariables false
set_option linter.unusedSimpArgs false

set_option maxRecDepth 100000 in
set_option maxHeartbeats 4000000 in
theorem live_call {w : World} {n pr : Nat} {vA : Value} {bl : List Blk} {cls : List Int} (h : RefB w n pr vA bl cls) (hs : sumI cls ≤ 2097152) (hl : bl.length ≤ 131072) :
    Calls Try.prog 30 #[.pointer (some ⟨pr, 0, none⟩)] w fun e w' => e = .returned (.int .i64 (sumI cls)) ∧ w = w' := by
  obtain ⟨c0, c1, c2, cf⟩ := h.cells
  have hlen := h.lens
  by_cases h0 : bl.length = 0
  · have hbl : bl = [] := List.eq_nil_of_length_eq_zero h0
    have hv : vA = .slice none 0 0 ∨ ∃ g cap, vA = .slice (some ⟨g, 0, none⟩) 0 cap := by
      rcases h.hA.2 with ⟨h, _⟩ | ⟨g, cap, _, h, _⟩
      · exact .inl h
      · exact .inr ⟨g, cap, by rw [h, h0]⟩
    have e0 : sumI cls = 0 := by rw [← hlen, hbl]; rfl
    rw [e0]
    clear h hlen hbl h0 cf c0 c1 e0 hs hl
    rcases hv with rfl | ⟨g, cap, rfl⟩
    all_goals
      go_enter Try.func30, Try.ntmps30
      go_wp2
      refine wp_loop_rounds 1 ?_
      rw [rounds_succ]
      go_wp2
      go_ret
      exact ⟨rfl, rfl⟩
  · obtain ⟨gA, cap, rfl, hrow⟩ := h.row (by omega)
    have HR := Lib.hid hrow
    have HL := Lib.hid hlen
    have hpos : 0 < bl.length := by omega
    clear h hrow hlen cf c0 c1 h0
    go_enter Try.func30, Try.ntmps30
    go_wp2
    go_loop [3, 4] (fun s i => ∃ k : Nat, k ≤ bl.length ∧ i = .int .i64 k ∧ s = .int .i64 (lens (bl.take k))) (fun _ i => bl.length - (intOf i).toNat)
    case atStart => exact ⟨0, Nat.zero_le _, rfl, rfl⟩
    case round =>
      obtain ⟨k, hk, rfl, rfl⟩ := hrel
      have b1 := lens_nonneg (bl.take k)
      have b2 := lens_take_le bl k
      by_cases hlt : k < bl.length
      · obtain ⟨r0, r1, r2⟩ := HR.out k hlt
        have b3 := lens_take bl k hlt
        have b4 := lens_take_le bl (k + 1)
        rw [b3, HL.out] at b4
        rw [HL.out] at b2
        have B3 := Lib.hid b3
        clear b3 r0
        generalize lens (bl.take k) = s at *
        generalize bl[k].2.1 = m at *
        generalize bl[k].2.2 = g at *
        go_wp2
        go_round
        case rel => exact ⟨k + 1, by omega, by go_num, by rw [B3.out]⟩
        case measure => simp [intOf]; omega
      · have hke : k = bl.length := by omega
        have e : lens (bl.take k) = sumI cls := by rw [hke, List.take_length]; exact HL.out
        rw [e]
        clear b1 b2 e
        subst hke
        go_wp2
        go_ret
        exact ⟨rfl, rfl⟩

def NotIn (bl : List Blk) (off : Int) (k : Nat) : Prop := ∀ j (h : j < bl.length), j < k → bl[j].1 ≠ off
def Found (bl : List Blk) (off r : Int) : Prop := (r = -1 ∧ NotIn bl off bl.length) ∨ ∃ i, ∃ h : i < bl.length, r = i ∧ bl[i].1 = off
def FindPost (bl : List Blk) (off : Int) (w : World) (e : Ending) (w' : World) : Prop := (∃ r, e = .returned (.int .i64 r) ∧ Found bl off r) ∧ w = w'

set_option maxRecDepth 100000 in
set_option maxHeartbeats 4000000 in
theorem find_call {w : World} {n pr : Nat} {vA : Value} {bl : List Blk} {cls : List Int} (h : RefB w n pr vA bl cls) (hl : bl.length ≤ 131072) (off : Int) :
    Calls Try.prog 35 #[.pointer (some ⟨pr, 0, none⟩), .int .i64 off] w (FindPost bl off w) := by
  obtain ⟨c0, c1, c2, cf⟩ := h.cells
  by_cases h0 : bl.length = 0
  · have hbl : bl = [] := List.eq_nil_of_length_eq_zero h0
    have hv : vA = .slice none 0 0 ∨ ∃ g cap, vA = .slice (some ⟨g, 0, none⟩) 0 cap := by
      rcases h.hA.2 with ⟨h, _⟩ | ⟨g, cap, _, h, _⟩
      · exact .inl h
      · exact .inr ⟨g, cap, by rw [h, h0]⟩
    have fin : FindPost bl off w (.returned (.int .i64 (-1))) w := ⟨⟨-1, rfl, .inl ⟨rfl, fun j hj => by omega⟩⟩, rfl⟩
    have FIN := Lib.hid fin
    clear h hbl h0 cf c0 c1 fin
    rcases hv with rfl | ⟨g, cap, rfl⟩
    all_goals
      go_enter Try.func35, Try.ntmps35
      go_wp2
      refine wp_loop_rounds 1 ?_
      rw [rounds_succ]
      go_wp2
      go_ret
      exact FIN.out
  · obtain ⟨gA, cap, rfl, hrow⟩ := h.row (by omega)
    have HR := Lib.hid hrow
    have hpos : 0 < bl.length := by omega
    clear h hrow cf c0 c1 h0
    go_enter Try.func35, Try.ntmps35
    go_wp2
    go_loop [5] (fun i => ∃ k : Nat, k ≤ bl.length ∧ i = .int .i64 k ∧ NotIn bl off k) (fun i => bl.length - (intOf i).toNat)
    case atStart => exact ⟨0, Nat.zero_le _, rfl, fun j h hj => by omega⟩
    case round =>
      obtain ⟨k, hk, rfl, hno⟩ := hrel
      have HNO := Lib.hid hno
      clear hno
      by_cases hlt : k < bl.length
      · obtain ⟨r0, r1, r2⟩ := HR.out k hlt
        clear r2
        by_cases he : bl[k].1 = off
        · have HF : Hid (Found bl off k) := Lib.hid (.inr ⟨k, hlt, rfl, he⟩)
          have eb : (bl[k].1 == off) = true := beq_iff_eq.2 he
          clear he
          generalize bl[k].1 = o at *
          go_wp2
          go_ret
          exact ⟨⟨_, rfl, HF.out⟩, rfl⟩
        · have HN2 : Hid (NotIn bl off (k + 1)) := Lib.hid (fun j h hj => by
            by_cases e : j = k
            · subst e; exact he
            · exact HNO.out j h (by omega))
          have eb : (bl[k].1 == off) = false := beq_eq_false_iff_ne.2 he
          clear he
          generalize bl[k].1 = o at *
          go_wp2
          go_round
          case rel => exact ⟨k + 1, by omega, by go_num, HN2.out⟩
          case measure => simp [intOf]; omega
      · have hke : k = bl.length := by omega
        have HF : Hid (Found bl off (-1)) := Lib.hid (.inl ⟨rfl, fun j h hj => HNO.out j h (by omega)⟩)
        clear HNO
        subst hke
        go_wp2
        go_ret
        exact ⟨⟨_, rfl, HF.out⟩, rfl⟩

/-- what Size answers: by the list of offsets and bytes -/
def sizeOf' (cls : List Int) (off : Int) : Int × Int := if hasI (pairs 16 cls) off then (lookI (pairs 16 cls) off, 0) else (0, 23)

theorem size_none {w : World} {n pr : Nat} {vA : Value} {bl : List Blk} {cls : List Int} (h : RefB w n pr vA bl cls) (off : Int) (hn : NotIn bl off bl.length) : sizeOf' cls off = (0, 23) := by
  unfold sizeOf'
  rw [if_neg]
  rw [← h.hp]
  simp only [hasI, List.any_map, List.any_eq_true, not_exists, not_and]
  intro x hx
  obtain ⟨i, hi, rfl⟩ := List.getElem_of_mem hx
  have := hn i hi hi
  simpa using this
theorem pairs_ge (cls : List Int) : ∀ (s : Int), (∀ c ∈ cls, 16 ≤ c) → ∀ p ∈ pairs s cls, s ≤ p.1 := by
  induction cls with
  | nil => intro s _ p hp; cases hp
  | cons c l ih =>
    intro s h p hp
    rcases List.mem_cons.1 hp with rfl | hp
    · exact Int.le_refl _
    · have := ih (s + c) (fun d hd => h d (List.mem_cons_of_mem _ hd)) p hp
      have := h c (List.mem_cons_self ..)
      omega
theorem foldl_other (ps : List (Int × Int)) (k : Int) : ∀ v, (∀ p ∈ ps, p.1 ≠ k) → ps.foldl (fun v p => if p.1 = k then p.2 else v) v = v := by
  induction ps with
  | nil => intro v _; rfl
  | cons p ps ih =>
    intro v h
    rw [List.foldl_cons, if_neg (h p (List.mem_cons_self ..))]
    exact ih v (fun q hq => h q (List.mem_cons_of_mem _ hq))
theorem lookI_pairs (cls : List Int) : ∀ (s : Int) (v : Int), (∀ c ∈ cls, 16 ≤ c) → ∀ p ∈ pairs s cls, (pairs s cls).foldl (fun v q => if q.1 = p.1 then q.2 else v) v = p.2 := by
  induction cls with
  | nil => intro s v _ p hp; cases hp
  | cons c l ih =>
    intro s v h p hp
    have hl : ∀ d ∈ l, 16 ≤ d := fun d hd => h d (List.mem_cons_of_mem _ hd)
    have hc := h c (List.mem_cons_self ..)
    simp only [pairs, List.foldl_cons]
    rcases List.mem_cons.1 hp with rfl | hp
    · rw [if_pos rfl]
      exact foldl_other _ _ _ (fun q hq => by have := pairs_ge l (s + c) hl q hq; simp only; omega)
    · exact ih (s + c) _ hl p hp
theorem size_some {w : World} {n pr : Nat} {vA : Value} {bl : List Blk} {cls : List Int} (h : RefB w n pr vA bl cls) (hc : ∀ c ∈ cls, 16 ≤ c) (i : Nat) (hi : i < bl.length) : sizeOf' cls bl[i].1 = ((bl[i].2.1 : Int), 0) := by
  have hm : (bl[i].1, (bl[i].2.1 : Int)) ∈ pairs 16 cls := by
    rw [← h.hp]; exact List.mem_map.2 ⟨bl[i], List.getElem_mem hi, rfl⟩
  unfold sizeOf'
  rw [if_pos]
  · congr 1
    exact lookI_pairs cls 16 0 hc _ hm
  · simp only [hasI, List.any_eq_true]
    exact ⟨_, hm, by simp⟩

set_option maxRecDepth 100000 in
set_option maxHeartbeats 4000000 in
theorem rsize_call {w : World} {n pr : Nat} {vA : Value} {bl : List Blk} {cls : List Int} (h : RefB w n pr vA bl cls) (hc : ∀ c ∈ cls, 16 ≤ c) (hl : bl.length ≤ 131072) (off : Int) :
    Calls Try.prog 22 #[.pointer (some ⟨pr, 0, none⟩), .int .i64 off] w fun e w' => e = .returned (.tuple #[.int .i64 (sizeOf' cls off).1, .int .i64 (sizeOf' cls off).2]) ∧ w = w' := by
  have hf := Lib.hid (find_call h hl off)
  obtain ⟨c0, c1, c2, cf⟩ := h.cells
  have HB := Lib.hid h
  have HC := Lib.hid hc
  clear h hc c0 c1 cf
  go_enter Try.func22, Try.ntmps22
  go_wp2_with fail
  refine hf.out.mono ?_
  rintro e w' ⟨⟨r, rfl, hr⟩, rfl⟩
  rcases hr with ⟨rfl, hno⟩ | ⟨i, hi, rfl, he⟩
  · have E := Lib.hid (size_none HB.out off hno)
    clear hno c2
    go_wp2_with fail
    go_ret2
    exact ⟨by rw [E.out]; rfl, rfl⟩
  · have e := size_some HB.out HC.out i hi
    rw [he] at e
    have E := Lib.hid e
    obtain ⟨gA, cap, hv, hrow⟩ := HB.out.row (by omega)
    subst hv
    obtain ⟨r0, r1, r2⟩ := hrow i hi
    clear he e hrow r0 r1
    generalize bl[i].2.1 = m at *
    generalize bl[i].2.2 = g at *
    go_wp2_with fail
    go_ret2
    exact ⟨by rw [E.out]; rfl, rfl⟩
end Go.Proofs.Ytccblcnjeekhbaa
/- (*Arena).Size, for an arena whose blocks are all live. -/
namespace Go.Proofs.Ytccblcnjeekhbaa
open Go.RowKit Go.Maps
set_option linter.unusedVariables false
set_option linter.unusedSimpArgs false

set_option maxRecDepth 100000 in
set_option maxHeartbeats 4000000 in
theorem asize_call {w : World} {n pa : Nat} {cls : List Int} {F : Nat → Prop} (h : ArZ w n pa cls F) (off : Int) (h0 : -9223372036854775808 ≤ off) (h1 : off ≤ 9223372036854775807) :
    Calls Try.prog 18 #[.pointer (some ⟨pa, 0, none⟩), .int .i64 off] w fun e w' => e = .returned (.tuple #[.int .i64 (sizeOf' cls off).1, .int .i64 (sizeOf' cls off).2]) ∧ w = w' := by
  obtain ⟨pm, g, cap, vS, vC, bs, bf, A, hF, r⟩ := h
  obtain ⟨a0, a1, a2, a3, a4, a5, a6, af⟩ := A.cells
  have hk := keyOf_int_mk (P := Try.prog) Try.underlying3 (q := .i64) (a := off) (WalkArith.wf_i64 ⟨h0, h1⟩)
  have hh := has_mapI (pairs 16 cls) off
  have hat := at_mapI (pairs 16 cls) off
  have hs := A.hs
  clear A hF r a0 a1 a2 a3 a4 a6 af
  generalize hm : mapI (pairs 16 cls) = D at *
  cases hb : hasI (pairs 16 cls) off with
  | true =>
    rw [hb] at hh
    have E := Lib.hid (show sizeOf' cls off = (lookI (pairs 16 cls) off, 0) by unfold sizeOf'; rw [if_pos hb])
    generalize lookI (pairs 16 cls) off = v at *
    have HAT := Lib.hid hat
    clear hat hm hb
    go_enter Try.func18, Try.ntmps18
    go_wp2_with (at_lookup; refine wpList_lookup_own_ok_int _ rfl _ _ 59 rfl 3 3 .i64 key3 Try.underlying59 Try.underlying3 (zero3 _) bs cls.length D rfl hs _ _ rfl hk ?_; intro c hc hwc; rw [HAT.out] at hc; have hc' : v = c := (by injection hc with hc; injection hc); subst hc')
    go_ret2
    exact ⟨by rw [E.out]; rfl, rfl⟩
  | false =>
    rw [hb] at hh
    have E := Lib.hid (show sizeOf' cls off = (0, 23) by unfold sizeOf'; rw [if_neg (by rw [hb]; decide)])
    generalize lookI (pairs 16 cls) off = v at *
    have HAT := Lib.hid hat
    clear hat hm hb
    go_enter Try.func18, Try.ntmps18
    go_wp2_with (at_lookup; refine wpList_lookup_own_ok_int _ rfl _ _ 59 rfl 3 3 .i64 key3 Try.underlying59 Try.underlying3 (zero3 _) bs cls.length D rfl hs _ _ rfl hk ?_; intro c hc hwc)
    go_ret2
    exact ⟨by rw [E.out]; rfl, rfl⟩
end Go.Proofs.Ytccblcnjeekhbaa
/- The document's arena: take, walked, where all blocks are live. -/
namespace Go.Proofs.Ytccblcnjeekhbaa
open Go.RowKit Go.Maps
set_option linter.unusedVariables false
set_option linter.unusedSimpArgs false

theorem info108 : (Try.prog.info? 108).map (fun i => (i.zero, i.size, i.bytes)) = some (some (.agg #[.int .i64 0, .bool false, .slice none 0 0]), 3, 40) := by kernel_rfl
theorem mkzb (m : Nat) (hm : m ≤ 1048576) (w : World) : (Instr.makeSlice 95 (.int .i64 (m : Int)) (.int .i64 (m : Int))).run Try.prog w = .ok (.slice (some ⟨w.heap.size, 0, none⟩) m m) (w.alloc (.cells (zb m) 5)) := by
  obtain ⟨i0, hi, hz0, hz1, hz2⟩ := info_parts info5
  have h := run_make (P := Try.prog) w 95 5 i0 (.int .u8 0) Try.underlying95 hi hz0 .i64 .i64 (m : Int) (m : Int) (by omega) (by omega) (by rw [hz2]; omega) (by omega)
  rw [hz1, Nat.mul_one, Int.toNat_natCast] at h
  have e : madeCells (Value.int IntKind.u8 0).cells m = zb m := zb_made m
  rw [e] at h
  exact h

theorem allocs2 (w : World) (Z B : Obj) : ((w.alloc Z).alloc B).heap[w.heap.size + 1]? = some B := by
  have := alloc_new (w.alloc Z) B
  rwa [show (w.alloc Z).heap.size = w.heap.size + 1 by simp] at this
section
variable {P : Program} {ops : Array Oper} {o : Oper} {a : Act} {Q : Exit → Act → World → Prop} {K : Act → World → Prop}
/-- append of one element (a block b that has just been made) as a step of a region that draws its order -/
theorem step_append_at {W : World} (base : Nat) (hw : Region.wanted o (yielded ops a.tmps) = true) (s x : Operand) (t e : TypeId) (z : Value) (size bytes : Nat)
    (ho : o.op = .call { callee := .builtin .append, args := #[s, x], argTypes := #[t, t] })
    (ht : P.underlying t = some (.slice e)) (hinfo : (P.info? e).map (fun i => (i.zero, i.size, i.bytes)) = some (some z, size, bytes)) (hz : z.cells.size = size) (hs0 : 0 < size) (hb0 : 0 < bytes)
    (v : Value) (n : Nat) (xs ys : List Value) (b : Nat) (hs : a.eval s = v) (hx : a.eval x = .slice (some ⟨b, 0, none⟩) 1 1) (hys : ys.length = size) (h1 : ∀ u ∈ ys, u.oneCell' = true) (hbk : W.heap[b]? = some (.cells ys.toArray e (0, 0)))
    (HO : W.ownsRow base e size v n xs) (hbase : base ≤ W.heap.size) (hl : (n + 1) * bytes ≤ 140737488355328)
    (h : ∀ v1 w1, w1.ownsRow base e size v1 (n + 1) (xs ++ ys) → W.grownBy w1 v.ownBlock → (v1.ownBlock = v.ownBlock ∨ ∃ b, v1.ownBlock = some b ∧ W.heap.size ≤ b) → K (a.put o.dst v1) w1) :
    if Region.wanted o (yielded ops a.tmps) = true then Oper.wp P o a W K Q else K (a.put o.dst undef) W := by
  obtain ⟨i0, hi, hzz⟩ := Option.map_eq_some_iff.1 hinfo
  simp only [Prod.mk.injEq] at hzz
  obtain ⟨hz0, hz1, hz2⟩ := hzz
  have hlen : n + 1 ≤ 140737488355328 := Nat.le_trans (Nat.le_mul_of_pos_right _ hb0) hl
  rw [if_pos hw]
  obtain ⟨v1, w1, hr, hown, hg, _, hat⟩ := run_append_own_at (P := P) W base t o.type e i0 z size bytes ht hi hz0 hz1 hz2 hz hs0 v n xs HO ⟨b, 0, none⟩ 1 1 ys (by rw [hys]; simp)
    (by simpa using World.news_of_block (cs := ys.toArray) (t := e) (fr := (0, 0)) hbk) h1 (by simp only [maxLen]; omega) hl hbase
  unfold Oper.wp execOp
  simp only [ho, resolve, invoke, builtin, Sem.run_bind, Sem.run_pure, Result.andThen_ok, List.map_toArray, List.map_cons, List.map_nil, hs, hx, hr]
  refine h v1 w1 hown hg ?_
  rcases hat with hat | hat
  · exact .inl hat
  · exact .inr ⟨_, hat, Nat.le_refl _⟩
end

def RTakePost (w : World) (n pr : Nat) (cls : List Int) (c : Int) (G : Nat → Prop) (e : Ending) (w' : World) : Prop :=
  e = .returned (.int .i64 (16 + sumI cls)) ∧ RefZ w' n pr (cls ++ [c]) (fun k => G k ∨ (w.heap.size ≤ k ∧ k < w'.heap.size)) ∧ Turn G w w'

/-- behind the loop: the append, the end -/
theorem rmid {w W w1 : World} {n pr : Nat} {vA : Value} {bl : List Blk} {cls : List Int} (h : RefB w n pr vA bl cls) (T : Turn (fun _ => False) w W) (hg : W.grownBy w1 vA.ownBlock) :
    w1.heap[pr]? = some (.cells #[.int .i64 2097152, .int .i64 (16 + sumI cls), vA] 65 (0, 0)) := by
  have h1 := T.heap h.hr (fun h => h)
  have T2 : Turn (fun k => vA.ownBlock = some k) W w1 := Turn.of_grown hg (fun k hk => .inl hk)
  refine T2.heap h1 (fun hk => ?_)
  obtain ⟨cur, hc⟩ := row_typed h.hA pr hk
  exact ne_heap hc h.hr (ne_type (by decide)) rfl

theorem rcells {w1 : World} {pr : Nat} {vA : Value} {E : Int} (h : w1.heap[pr]? = some (.cells #[.int .i64 2097152, .int .i64 E, vA] 65 (0, 0))) :
    w1.cell? ⟨pr, 1, none⟩ = some (.int .i64 E) ∧ w1.cell? ⟨pr, 2, none⟩ = some vA ∧ ∀ i, w1.frozen? ⟨pr, i, none⟩ = false := by
  refine ⟨?_, ?_, fun i => ?_⟩
  all_goals first | (simp [World.cell?, h]; done) | simp [World.frozen?, h]
/-- what the document's arena is behind take -/
theorem rtake_fin {w W w1 : World} {n pr m : Nat} {vA v1 : Value} {bl : List Blk} {cls : List Int} {G : Nat → Prop} (h : RefB w n pr vA bl cls) (hG : ∀ k, refF pr vA k → G k) (hcl : ∀ c ∈ cls, 16 ≤ c) (T : Turn (fun _ => False) w W) (hg : W.grownBy w1 vA.ownBlock)
    (ho : w1.ownsRow n 108 3 v1 (bl.length + 1) (cellsR bl ++ [.int .i64 (16 + sumI cls), .bool true, .slice (some ⟨w.heap.size, 0, none⟩) m m])) (hat : v1.ownBlock = vA.ownBlock ∨ ∃ b, v1.ownBlock = some b ∧ W.heap.size ≤ b)
    (c0 : 16 ≤ (m : Int)) (c1 : sumI cls + m ≤ 2097152) (hl : cls.length + 1 ≤ 131072) :
    RTakePost w n pr cls m G (.returned (.int .i64 (16 + sumI cls))) ((w1.setCell ⟨pr, 2, none⟩ v1).setCell ⟨pr, 1, none⟩ (.int .i64 (16 + sumI cls + m))) := by
  have h1 := rmid h T hg
  have T2 : Turn (fun k => vA.ownBlock = some k) W w1 := Turn.of_grown hg (fun k hk => .inl hk)
  have T3 : Turn (fun k => k = pr) w1 ((w1.setCell ⟨pr, 2, none⟩ v1).setCell ⟨pr, 1, none⟩ (.int .i64 (16 + sumI cls + m))) :=
    Turn.setCell (F := fun k => k = pr) (Turn.setCell (F := fun k => k = pr) (Turn.refl _ _) ⟨pr, 2, none⟩ v1 (.inl rfl)) ⟨pr, 1, none⟩ _ (.inl rfl)
  have h2 := set_field (i := 2) h1 v1 (cs' := #[.int .i64 2097152, .int .i64 (16 + sumI cls), v1]) rfl
  have h3 := set_field (i := 1) h2 (.int .i64 (16 + sumI cls + m)) (cs' := #[.int .i64 2097152, .int .i64 (16 + sumI cls + m), v1]) rfl
  have hne : ∀ k, v1.ownBlock = some k → k ≠ pr := fun k hk e => by
    obtain ⟨cur, hc⟩ := row_typed ho k hk
    exact ne_heap hc h1 (ne_type (by decide)) e
  refine ⟨rfl, ⟨v1, bl ++ [(16 + sumI cls, m, w.heap.size)], ⟨?_, ?_, ?_, h.npr⟩, fun k hk => ?_, ?_, ?_, ?_⟩, ?_⟩
  · rw [sumI_snoc, ← Int.add_assoc]; exact h3
  · have := T3.row ho hne
    rw [List.length_append, cellsR_append]
    exact this
  · rw [List.map_append, h.hp, pairs_snoc]; rfl
  · rcases hk with rfl | hk
    · exact .inl (hG _ (.inl rfl))
    · rcases hat with hat | ⟨b, hb, hlt⟩
      · exact .inl (hG _ (.inr (hat ▸ hk)))
      · refine .inr ⟨?_, ?_⟩
        · rw [hb] at hk; cases hk; have := T.size; omega
        · obtain ⟨cur, hc⟩ := row_typed ho k hk
          have := (Array.getElem?_eq_some_iff.1 hc).1
          simpa using this
  · intro d hd
    rcases List.mem_append.1 hd with h | h
    · exact hcl d h
    · simp at h; omega
  · rw [sumI_snoc]; exact c1
  · simpa using hl
  · exact ((T.mono (G := G) (fun _ _ h => h.elim)).then T2 (fun k hk => .inl (hG k (.inr hk)))).then T3 (fun k hk => .inl (hG k (.inl hk)))

set_option maxRecDepth 100000 in
set_option maxHeartbeats 8000000 in
theorem rtake_tail (w : World) (n pr : Nat) (vA : Value) (bl : List Blk) (cls : List Int) (c : Int) (G : Nat → Prop) (h : RefB w n pr vA bl cls) (hG : ∀ k, refF pr vA k → G k) (hcl : ∀ c ∈ cls, 16 ≤ c) (hn : n ≤ w.heap.size) (c0 : 16 ≤ c) (c2 : c ≤ 1048576) (c1 : sumI cls + c ≤ 2097152) (hl : cls.length + 1 ≤ 131072) (hs0 : 0 ≤ sumI cls) :
    Calls Try.prog 32 #[.pointer (some ⟨pr, 0, none⟩), .int .i64 c] w (RTakePost w n pr cls c G) := by
  obtain ⟨m, rfl⟩ := Int.eq_ofNat_of_zero_le (show 0 ≤ c by omega)
  have hmk := mkzb m (by omega)
  have hb := Lib.hid h
  have hbl := h.len
  have hbl2 : bl.length ≤ 131072 := by omega
  have FIN := Lib.hid (fun (W w1 : World) (v1 : Value) (T : Turn (fun _ => False) w W) (hg : W.grownBy w1 vA.ownBlock) (ho : w1.ownsRow n 108 3 v1 (bl.length + 1) (cellsR bl ++ [.int .i64 (16 + sumI cls), .bool true, .slice (some ⟨w.heap.size, 0, none⟩) m m])) (hat : v1.ownBlock = vA.ownBlock ∨ ∃ b, v1.ownBlock = some b ∧ W.heap.size ≤ b) => rtake_fin h hG hcl T hg ho hat c0 c1 hl)
  clear hbl hl hG hcl
  obtain ⟨k0, k1, k2, kf⟩ := h.cells
  obtain ⟨E, hE⟩ : ∃ E, 16 + sumI cls = E := ⟨_, rfl⟩
  rw [hE] at k1
  have f1 := kf 1
  have f2 := kf 2
  have hEb : 0 ≤ E ∧ E ≤ 2097168 := by omega
  have hEc : E + (m : Int) ≤ 2097168 := by omega
  have HE := Lib.hid hE
  have KF := Lib.hid kf
  clear hE h kf k0
  by_cases h0 : bl.length = 0
  · have hbe : bl = [] := List.eq_nil_of_length_eq_zero h0
    have hvv : vA = .slice none 0 0 ∨ ∃ g cap, vA = .slice (some ⟨g, 0, none⟩) bl.length cap := by
      rcases hb.out.hA.2 with ⟨h, _⟩ | ⟨g, cap, _, h, _⟩
      · exact .inl h
      · exact .inr ⟨g, cap, h⟩
    clear hbe
    rcases hvv with hv | ⟨gA, cap, hv⟩
    · have HV := Lib.hid hv
      rw [hv] at k2
      have k3 : (w.alloc (.cells (zb m) 5)).cell? ⟨pr, 2, none⟩ = some (.slice none 0 0) := Lib.cell?_alloc_some _ k2
      have k4 : ((w.alloc (.cells (zb m) 5)).alloc (.cells #[.int .i64 E, .bool true, .slice (some ⟨w.heap.size, 0, none⟩) m m] 108)).cell? ⟨pr, 2, none⟩ = some (.slice none 0 0) := Lib.cell?_alloc_some _ k3
      have hAA : Hid (w.ownsRow n 108 3 (.slice none 0 0) bl.length (cellsR bl)) := Lib.hid (hv ▸ hb.out.hA)
      have HBv : Hid (RefB w n pr (.slice none 0 0) bl cls) := Lib.hid (hv ▸ hb.out)
      have HB0 := Lib.hid h0
      clear hv h0
      go_enter Try.func32, Try.ntmps32
      go_wp2
      refine wp_loop_rounds 1 ?_
      rw [rounds_succ]
      go_wp2
      go_region_law (refine step_append_at n (by simp [Region.wanted]) (.tmp 70) (.tmp 75) 63 108 (.agg #[.int .i64 0, .bool false, .slice none 0 0]) 3 40 rfl Try.underlying63 info108 rfl (by decide) (by decide) (.slice none 0 0) bl.length (cellsR bl) [.int .i64 E, .bool true, .slice (some ⟨w.heap.size, 0, none⟩) m m] (w.heap.size + 1) rfl rfl rfl (by simp [Value.oneCell']) (by exact allocs2 w _ _) (by exact (hAA.out.alloc _).alloc _) (by simp; omega) (by omega) ?_; intro v1 w1 ho hg hat; obtain ⟨x1, x2, y⟩ := rcells (rmid HBv.out (by repeat (first | exact Turn.refl _ w | apply Turn.drew | apply Turn.alloc)) hg); rw [HE.out] at x1; have y1 := y 1; have y2 := y 2; clear y; have hff := Lib.hid (FIN.out _ w1 v1 (by repeat (first | exact Turn.refl _ w | apply Turn.drew | apply Turn.alloc)) (HV.out ▸ hg) (by rw [HE.out]; exact ho) (HV.out ▸ hat)); clear hat hg; obtain ⟨g1, cap1, hv1, hb1, hz⟩ := ho.form (by omega); clear ho hz hb1; subst hv1)
      all_goals
        go_wp2
        go_ret
        have hz := hff.out
        rw [HE.out] at hz
        exact hz
    · have HV := Lib.hid hv
      have hz1 : decide (0 < bl.length) = false := by simp [h0]
      have hz2 : ¬ (0 < bl.length) := by omega
      rw [hv] at k2
      have k3 : (w.alloc (.cells (zb m) 5)).cell? ⟨pr, 2, none⟩ = some (.slice (some ⟨gA, 0, none⟩) bl.length cap) := Lib.cell?_alloc_some _ k2
      have k4 : ((w.alloc (.cells (zb m) 5)).alloc (.cells #[.int .i64 E, .bool true, .slice (some ⟨w.heap.size, 0, none⟩) m m] 108)).cell? ⟨pr, 2, none⟩ = some (.slice (some ⟨gA, 0, none⟩) bl.length cap) := Lib.cell?_alloc_some _ k3
      have hAA : Hid (w.ownsRow n 108 3 (.slice (some ⟨gA, 0, none⟩) bl.length cap) bl.length (cellsR bl)) := Lib.hid (hv ▸ hb.out.hA)
      have HBv : Hid (RefB w n pr (.slice (some ⟨gA, 0, none⟩) bl.length cap) bl cls) := Lib.hid (hv ▸ hb.out)
      have HB0 := Lib.hid h0
      clear hv h0
      go_enter Try.func32, Try.ntmps32
      go_wp2
      refine wp_loop_rounds 1 ?_
      rw [rounds_succ]
      go_wp2
      go_region_law (refine step_append_at n (by simp [Region.wanted]) (.tmp 70) (.tmp 75) 63 108 (.agg #[.int .i64 0, .bool false, .slice none 0 0]) 3 40 rfl Try.underlying63 info108 rfl (by decide) (by decide) (.slice (some ⟨gA, 0, none⟩) bl.length cap) bl.length (cellsR bl) [.int .i64 E, .bool true, .slice (some ⟨w.heap.size, 0, none⟩) m m] (w.heap.size + 1) rfl rfl rfl (by simp [Value.oneCell']) (by exact allocs2 w _ _) (by exact (hAA.out.alloc _).alloc _) (by simp; omega) (by omega) ?_; intro v1 w1 ho hg hat; obtain ⟨x1, x2, y⟩ := rcells (rmid HBv.out (by repeat (first | exact Turn.refl _ w | apply Turn.drew | apply Turn.alloc)) hg); rw [HE.out] at x1; have y1 := y 1; have y2 := y 2; clear y; have hff := Lib.hid (FIN.out _ w1 v1 (by repeat (first | exact Turn.refl _ w | apply Turn.drew | apply Turn.alloc)) (HV.out ▸ hg) (by rw [HE.out]; exact ho) (HV.out ▸ hat)); clear hat hg; obtain ⟨g1, cap1, hv1, hb1, hz⟩ := ho.form (by omega); clear ho hz hb1; subst hv1)
      all_goals
        go_wp2
        go_ret
        have hz := hff.out
        rw [HE.out] at hz
        exact hz
  · obtain ⟨gA, cap, hv, hrow⟩ := hb.out.row (by omega)
    have HR := Lib.hid hrow
    have HV := Lib.hid hv
    have hpos : 0 < bl.length := by omega
    rw [hv] at k2
    have k3 : (w.alloc (.cells (zb m) 5)).cell? ⟨pr, 2, none⟩ = some (.slice (some ⟨gA, 0, none⟩) bl.length cap) := Lib.cell?_alloc_some _ k2
    have k4 : ((w.alloc (.cells (zb m) 5)).alloc (.cells #[.int .i64 E, .bool true, .slice (some ⟨w.heap.size, 0, none⟩) m m] 108)).cell? ⟨pr, 2, none⟩ = some (.slice (some ⟨gA, 0, none⟩) bl.length cap) := Lib.cell?_alloc_some _ k3
    have hAA := Lib.hid (hv ▸ hb.out.hA)
    have HBv := Lib.hid (hv ▸ hb.out)
    clear hrow h0 hv
    go_enter Try.func32, Try.ntmps32
    go_wp2
    go_loop [5] (fun i => ∃ k : Nat, k ≤ bl.length ∧ i = .int .i64 k) (fun i => bl.length - (intOf i).toNat)
    case atStart => exact ⟨0, Nat.zero_le _, rfl⟩
    case round =>
      obtain ⟨k, hk, rfl⟩ := hrel
      by_cases hlt : k < bl.length
      · obtain ⟨r0, r1, r2⟩ := HR.out k hlt
        clear r0 r2
        go_wp2
        go_round
        case rel => exact ⟨k + 1, by omega, by go_num⟩
        case measure => simp [intOf]; omega
      · have hke : k = bl.length := by omega
        subst hke
        go_wp2
        go_region_law (refine step_append_at n (by simp [Region.wanted]) (.tmp 70) (.tmp 75) 63 108 (.agg #[.int .i64 0, .bool false, .slice none 0 0]) 3 40 rfl Try.underlying63 info108 rfl (by decide) (by decide) (.slice (some ⟨gA, 0, none⟩) bl.length cap) bl.length (cellsR bl) [.int .i64 E, .bool true, .slice (some ⟨w.heap.size, 0, none⟩) m m] (w.heap.size + 1) rfl rfl rfl (by simp [Value.oneCell']) (by exact allocs2 w _ _) (by exact (hAA.out.alloc _).alloc _) (by simp; omega) (by omega) ?_; intro v1 w1 ho hg hat; obtain ⟨x1, x2, y⟩ := rcells (rmid HBv.out (by repeat (first | exact Turn.refl _ w | apply Turn.drew | apply Turn.alloc)) hg); rw [HE.out] at x1; have y1 := y 1; have y2 := y 2; clear y; have hff := Lib.hid (FIN.out _ w1 v1 (by repeat (first | exact Turn.refl _ w | apply Turn.drew | apply Turn.alloc)) (HV.out ▸ hg) (by rw [HE.out]; exact ho) (HV.out ▸ hat)); clear hat hg; obtain ⟨g1, cap1, hv1, hb1, hz⟩ := ho.form (by omega); clear ho hz hb1; subst hv1)
        all_goals
          go_wp2
          go_ret
          have hz := hff.out
          rw [HE.out] at hz
          exact hz
end Go.Proofs.Ytccblcnjeekhbaa
/- The document's arena: AllocAll of one size, Alloc, New. -/
namespace Go.Proofs.Ytccblcnjeekhbaa
open Go.RowKit Go.Maps Go.Proofs.Ytccblcnjeekhbaa.PStoreHolds
open Go.Proofs.YtccblcnjeekhbaaW.PrintWords (print_append_num nums own_slice Drawn0)
set_option linter.unusedVariables false
set_option linter.unusedSimpArgs false

theorem sum_len : ∀ (cls : List Int), (∀ c ∈ cls, 16 ≤ c) → 16 * (cls.length : Int) ≤ sumI cls
  | [], _ => by simp [sumI]
  | c :: l, h => by
    have := sum_len l (fun d hd => h d (List.mem_cons_of_mem _ hd))
    have := h c (List.mem_cons_self ..)
    simp only [sumI, List.length_cons]; omega
theorem rclass_call (x : Int) (h1 : 1 ≤ x) (h2 : x ≤ 1048576) (w : World) : Calls Try.prog 31 #[.int .i64 x] w fun e w' => e = .returned (.int .i64 (clsOf x)) ∧ ∃ k, w' = w.drewN k :=
  (larderref02_Class.calls 18 x _ w (cls_of x h1 h2).2.1).mono fun e w' h => ⟨h.1, h.2.out⟩
theorem rclass_zero (x : Int) (h : x < 1 ∨ 1048576 < x) (w : World) : Calls Try.prog 31 #[.int .i64 x] w fun e w' => e = .returned (.int .i64 0) ∧ ∃ k, w' = w.drewN k :=
  (larderref02_Class.calls 18 x _ w (cls_none x h).2).mono fun e w' h => ⟨h.1, h.2.out⟩
theorem rlive (w : World) (n pr : Nat) (cls : List Int) (G : Nat → Prop) (h : RefZ w n pr cls G) : Calls Try.prog 30 #[.pointer (some ⟨pr, 0, none⟩)] w fun e w' => e = .returned (.int .i64 (sumI cls)) ∧ w = w' := by
  obtain ⟨vA, bl, A, hF, hcl, hs, hl⟩ := h
  exact live_call A hs (by rw [A.len]; exact hl)
theorem rtake_call (w : World) (n pr : Nat) (cls : List Int) (c : Int) (G : Nat → Prop) (h : RefZ w n pr cls G) (hn : n ≤ w.heap.size) (c0 : 16 ≤ c) (c2 : c ≤ 1048576) (c1 : sumI cls + c ≤ 2097152) :
    Calls Try.prog 32 #[.pointer (some ⟨pr, 0, none⟩), .int .i64 c] w (RTakePost w n pr cls c G) := by
  obtain ⟨vA, bl, A, hG, hcl, hs, hl⟩ := h
  have := sum_len cls hcl
  exact rtake_tail w n pr vA bl cls c G A hG hcl hn c0 c2 c1 (by omega) (sumI_nonneg cls hcl)
theorem RefZ_drewN {w : World} {n pr : Nat} {cls : List Int} {G : Nat → Prop} (h : RefZ w n pr cls G) (k : Nat) : RefZ (w.drewN k) n pr cls G :=
  RefZ_kept h ((Turn.refl (fun _ => False) w).drewN k) (fun _ _ h => h)

set_option maxRecDepth 100000 in
set_option maxHeartbeats 4000000 in
theorem rall_small (w : World) (pr b : Nat) (x : Int) (h : x < 1) (hb : w.cell? ⟨b, 0, none⟩ = some (.int .i64 x)) :
    Calls Try.prog 16 #[.pointer (some ⟨pr, 0, none⟩), .slice (some ⟨b, 0, none⟩) 1 1] w (NonePost 21 w) := by
  have T := Turn.refl (fun _ => False) w
  go_enter Try.func16, Try.ntmps16
  go_wp2_with fail
  refine wp_loop_rounds 1 ?_
  rw [rounds_succ]
  go_wp2_with fail
  go_ret2
  exact ⟨rfl, T⟩

set_option maxRecDepth 100000 in
set_option maxHeartbeats 4000000 in
theorem rall_great (w : World) (n pr b : Nat) (x : Int) (cls : List Int) (G : Nat → Prop) (hz : RefZ w n pr cls G) (h : 1048576 < x) (hb : w.cell? ⟨b, 0, none⟩ = some (.int .i64 x)) :
    Calls Try.prog 16 #[.pointer (some ⟨pr, 0, none⟩), .slice (some ⟨b, 0, none⟩) 1 1] w (NonePost 22 w) := by
  have T := fun n => (Turn.refl (fun _ => False) w).drewN n
  have h1 : ¬ x < 1 := by omega
  have hc := Lib.hid (rclass_zero x (.inr h))
  have hl := Lib.hid (rlive w n pr cls G hz)
  have TT := Lib.hid T
  clear T hz
  go_enter Try.func16, Try.ntmps16
  go_wp2_with fail
  refine wp_loop_rounds 2 ?_
  rw [rounds_succ]
  go_wp2_with fail
  rw [rounds_succ]
  go_wp2_with fail
  refine hl.out.mono ?_
  rintro e w' ⟨rfl, rfl⟩
  go_wp2_with fail
  refine wp_loop_rounds 1 ?_
  rw [rounds_succ]
  go_wp2_with fail
  refine (hc.out _).mono ?_
  rintro e w1 ⟨rfl, k, rfl⟩
  go_wp2_with fail
  go_ret2
  exact ⟨rfl, TT.out k⟩

set_option maxRecDepth 100000 in
set_option maxHeartbeats 4000000 in
theorem rall_full (w : World) (n pr b : Nat) (x : Int) (cls : List Int) (G : Nat → Prop) (hz : RefZ w n pr cls G) (h1 : 1 ≤ x) (h2 : x ≤ 1048576) (hb : w.cell? ⟨b, 0, none⟩ = some (.int .i64 x)) (hf : 2097152 < sumI cls + clsOf x) :
    Calls Try.prog 16 #[.pointer (some ⟨pr, 0, none⟩), .slice (some ⟨b, 0, none⟩) 1 1] w (NonePost 22 w) := by
  obtain ⟨k0, k1⟩ : w.cell? ⟨pr, 0, none⟩ = some (.int .i64 2097152) ∧ (0 ≤ sumI cls ∧ sumI cls ≤ 2097152) := by
    obtain ⟨vA, bl, A, hG, hcl, hs, hl⟩ := hz; exact ⟨A.cells.1, sumI_nonneg cls hcl, hs⟩
  have T := fun n => (Turn.refl (fun _ => False) w).drewN n
  have h3 : ¬ x < 1 := by omega
  have hc := Lib.hid (rclass_call x h1 h2)
  have hl := Lib.hid (rlive w n pr cls G hz)
  have hd := cls_of x h1 h2
  generalize clsOf x = c at *
  have hd1 : 16 ≤ c := hd.2.2.1
  have hd2 : c ≤ 1048576 := hd.2.2.2
  have hq : (c == 0) = false := beq_eq_false_iff_ne.2 (by omega)
  generalize sumI cls = s at *
  have hff : 2097152 - s < c := by omega
  have TT := Lib.hid T
  clear T hz hd hf
  go_enter Try.func16, Try.ntmps16
  go_wp2_with fail
  refine wp_loop_rounds 2 ?_
  rw [rounds_succ]
  go_wp2_with fail
  rw [rounds_succ]
  go_wp2_with fail
  refine hl.out.mono ?_
  rintro e w' ⟨rfl, rfl⟩
  go_wp2_with fail
  refine wp_loop_rounds 1 ?_
  rw [rounds_succ]
  go_wp2_with fail
  refine (hc.out _).mono ?_
  rintro e w1 ⟨rfl, k, rfl⟩
  go_wp2_with fail
  go_ret2
  exact ⟨rfl, TT.out k⟩

def ROnePost (w : World) (n pr : Nat) (cls : List Int) (c : Int) (G : Nat → Prop) (e : Ending) (w' : World) : Prop :=
  ∃ g cap, e = .returned (.tuple #[.slice (some ⟨g, 0, none⟩) 1 cap, .int .i64 0]) ∧ w'.cell? ⟨g, 0, none⟩ = some (.int .i64 (16 + sumI cls)) ∧
    RefZ w' n pr (cls ++ [c]) (fun k => G k ∨ (w.heap.size ≤ k ∧ k < w'.heap.size)) ∧ Turn G w w'

set_option maxRecDepth 100000 in
set_option maxHeartbeats 8000000 in
theorem rall_one (w : World) (n pr b : Nat) (x : Int) (cls : List Int) (G : Nat → Prop) (hz : RefZ w n pr cls G) (hn : n ≤ w.heap.size) (h1 : 1 ≤ x) (h2 : x ≤ 1048576) (hb : w.cell? ⟨b, 0, none⟩ = some (.int .i64 x)) (hG : ¬ G b)
    (hfit : sumI cls + clsOf x ≤ 2097152) :
    Calls Try.prog 16 #[.pointer (some ⟨pr, 0, none⟩), .slice (some ⟨b, 0, none⟩) 1 1] w (ROnePost w n pr cls (clsOf x) G) := by
  obtain ⟨k0, k1⟩ : w.cell? ⟨pr, 0, none⟩ = some (.int .i64 2097152) ∧ (0 ≤ sumI cls ∧ sumI cls ≤ 2097152) := by
    obtain ⟨vA, bl, A, hG, hcl, hs, hl⟩ := hz; exact ⟨A.cells.1, sumI_nonneg cls hcl, hs⟩
  have T := fun n => (Turn.refl G w).drewN n
  have h3 : ¬ x < 1 := by omega
  have hc := Lib.hid (rclass_call x h1 h2)
  have hl := Lib.hid (rlive w n pr cls G hz)
  have hd := cls_of x h1 h2
  generalize clsOf x = c at *
  have hd1 : 16 ≤ c := hd.2.2.1
  have hd2 : c ≤ 1048576 := hd.2.2.2
  have hq : (c == 0) = false := beq_eq_false_iff_ne.2 (by omega)
  have HTK := Lib.hid (fun (W : World) (hZ : RefZ W n pr cls G) (hN : n ≤ W.heap.size) => rtake_call W n pr cls c G hZ hN hd1 hd2 hfit)
  obtain ⟨s, hs⟩ : ∃ s, s = sumI cls := ⟨_, rfl⟩
  rw [← hs] at hl k1 hfit
  have hff : ¬ 2097152 - s < c := by omega
  have hsc : -9223372036854775808 ≤ s + c ∧ s + c ≤ 9223372036854775807 := by omega
  have HS := Lib.hid hs
  have HZ := Lib.hid hz
  have HG := Lib.hid hG
  have TT := Lib.hid T
  have HN := Lib.hid hn
  clear T hz hd hs hG
  go_enter Try.func16, Try.ntmps16
  go_wp2_with fail
  refine wp_loop_rounds 2 ?_
  rw [rounds_succ]
  go_wp2_with fail
  rw [rounds_succ]
  go_wp2_with fail
  refine hl.out.mono ?_
  rintro e w' ⟨rfl, rfl⟩
  go_wp2_with fail
  refine wp_loop_rounds 2 ?_
  rw [rounds_succ]
  go_wp2_with fail
  refine (hc.out _).mono ?_
  rintro e w1 ⟨rfl, k, rfl⟩
  go_wp2_with fail
  rw [rounds_succ]
  go_wp2_with fail
  refine wp_loop_rounds 2 ?_
  rw [rounds_succ]
  go_wp2_with fail
  refine (hc.out _).mono ?_
  rintro e w1 ⟨rfl, k2, rfl⟩
  have T1 := Lib.hid (TT.out (k + k2))
  have Z1 := Lib.hid (RefZ_drewN HZ.out (k + k2))
  have N1 := Lib.hid (show n ≤ (w.drewN (k + k2)).heap.size from HN.out)
  have S1 := Lib.hid (show (w.drewN (k + k2)).heap.size = w.heap.size from rfl)
  have hb1 : (w.drewN (k + k2)).cell? ⟨b, 0, none⟩ = some (.int .i64 x) := hb
  go_wp2_with fail
  refine (HTK.out _ Z1.out N1.out).mono ?_
  generalize w.drewN (k + k2) = w1 at *
  rintro e w2 ⟨rfl, Z2, T2⟩
  have b2 : w2.cell? ⟨b, 0, none⟩ = some (.int .i64 x) := T2.cell hb1 HG.out
  have Z2 := Lib.hid Z2
  have T2 := Lib.hid T2
  have N2 := Lib.hid (show n ≤ w2.heap.size from Nat.le_trans N1.out T2.out.size)
  obtain ⟨E, hE⟩ : ∃ E, 16 + sumI cls = E := ⟨_, rfl⟩
  have HE := Lib.hid hE
  rw [hE]
  clear hE hb1 hb k0
  go_wp2_with (at_builtin; refine print_append_num (w0 := w2) (W := w2) n rfl (.tmp 67) (.tmp 69) 22 3 .i64 8 rfl Try.underlying22 info3 (by decide) (.slice none 0 0) [] E rfl rfl (World.ownsRow_nil _ _ _ _) (Below.refl _ _) N2.out (by decide) ?_; intro v1 w4 ho hB hg hat; obtain ⟨g4, cap4, hv4, hbase4, hx4⟩ := ho.form (by simp); subst hv4; have HO := Lib.hid ho; have HGR := Lib.hid hg; clear ho hB hg hat hx4 hbase4)
  rw [rounds_succ]
  go_wp2_with fail
  go_ret2
  have TG : Turn (fun _ => False) w2 w4 := Turn.of_grown HGR.out (fun k hk => by cases hk)
  have hT : Turn G w w4 := (T1.out.trans (T2.out.mono fun i _ hi => .inl hi)).then TG (fun i hi => hi.elim)
  refine ⟨g4, cap4, rfl, ?_, RefZ_mono (RefZ_kept Z2.out TG (fun _ _ h => h)) (fun i hi => ?_), hT⟩
  · rw [HE.out]
    exact HO.out.cellAt 0 (by simp)
  · rcases hi with h | ⟨h, h'⟩
    · exact .inl h
    · rw [S1.out] at h
      exact .inr ⟨h, Nat.lt_of_lt_of_le h' TG.size⟩
end Go.Proofs.Ytccblcnjeekhbaa
/- The document's arena: Alloc, New. -/
namespace Go.Proofs.Ytccblcnjeekhbaa
open Go.RowKit Go.Maps Go.Proofs.Ytccblcnjeekhbaa.PStoreHolds
set_option linter.unusedVariables false
set_option linter.unusedSimpArgs false

def RAllocPost (w : World) (n pr : Nat) (cls : List Int) (G : Nat → Prop) (e : Ending) (w' : World) : Prop :=
  (∃ a c, e = .returned (.tuple #[.int .i64 a, .int .i64 c])) ∧ RefZ w' n pr cls (fun k => G k ∨ (w.heap.size ≤ k ∧ k < w'.heap.size)) ∧ Turn G w w'
theorem RefZ_next {w w' : World} {n pr : Nat} {cls : List Int} {F G : Nat → Prop} (h : RefZ w n pr cls F) (T : Turn (fun _ => False) w w') : RefZ w' n pr cls (fun k => F k ∨ G k) :=
  RefZ_mono (RefZ_kept h T (fun _ _ h => h)) (fun k hk => .inl hk)

set_option maxRecDepth 100000 in
set_option maxHeartbeats 4000000 in
theorem ralloc_none (w : World) (n pr : Nat) (x c : Int) (cls : List Int) (G : Nat → Prop) (h : RefZ w n pr cls G) (hc : (c == 0) = false)
    (ha : Calls Try.prog 16 #[.pointer (some ⟨pr, 0, none⟩), .slice (some ⟨w.heap.size, 0, none⟩) 1 1] (w.alloc (.cells #[.int .i64 x] 3)) (NonePost c (w.alloc (.cells #[.int .i64 x] 3)))) :
    Calls Try.prog 7 #[.pointer (some ⟨pr, 0, none⟩), .int .i64 x] w (RAllocPost w n pr cls G) := by
  have HZ := Lib.hid h
  have HA := Lib.hid ha
  have hcn : (c != 0) = true := by rw [bne, hc]; rfl
  clear h ha
  go_enter Try.func7, Try.ntmps7
  go_wp2_with fail
  refine HA.out.mono ?_
  rintro e w1 ⟨rfl, T1⟩
  have T1 := Lib.hid T1
  go_wp2_with fail
  go_ret2
  have T : Turn (fun _ => False) w w1 := ((Turn.refl _ w).alloc _).trans (T1.out.mono fun _ _ h => h.elim)
  exact ⟨⟨0, c, rfl⟩, RefZ_next HZ.out T, turn_false T⟩

set_option maxRecDepth 100000 in
set_option maxHeartbeats 4000000 in
theorem ralloc_some (w : World) (n pr : Nat) (x c : Int) (cls : List Int) (G : Nat → Prop) (hl : ∀ k, G k → k < w.heap.size)
    (ha : Calls Try.prog 16 #[.pointer (some ⟨pr, 0, none⟩), .slice (some ⟨w.heap.size, 0, none⟩) 1 1] (w.alloc (.cells #[.int .i64 x] 3)) (ROnePost (w.alloc (.cells #[.int .i64 x] 3)) n pr cls c G)) :
    Calls Try.prog 7 #[.pointer (some ⟨pr, 0, none⟩), .int .i64 x] w (RAllocPost w n pr (cls ++ [c]) G) := by
  have HA := Lib.hid ha
  have HL := Lib.hid hl
  clear ha hl
  go_enter Try.func7, Try.ntmps7
  go_wp2_with fail
  refine HA.out.mono ?_
  rintro e w1 ⟨g, cap, rfl, hcell, Z1, T1⟩
  have T1 := Lib.hid T1
  have Z1 := Lib.hid Z1
  obtain ⟨E, hE⟩ : ∃ E, 16 + sumI cls = E := ⟨_, rfl⟩
  rw [hE] at hcell
  clear hE
  go_wp2_with fail
  go_ret2
  have T : Turn G w w1 := ((Turn.refl _ w).alloc _).trans (T1.out.mono fun _ _ h => .inl h)
  refine ⟨⟨E, 0, rfl⟩, RefZ_mono Z1.out (fun k hk => ?_), T⟩
  rcases hk with h | ⟨h, h'⟩
  · exact .inl h
  · exact .inr ⟨by simp at h; omega, h'⟩

theorem ralloc_call (w : World) (n pr : Nat) (x : Int) (cls : List Int) (G : Nat → Prop) (h : RefZ w n pr cls G) (hn : n ≤ w.heap.size) (hl : ∀ k, G k → k < w.heap.size) :
    Calls Try.prog 7 #[.pointer (some ⟨pr, 0, none⟩), .int .i64 x] w (RAllocPost w n pr (allocNext cls x) G) := by
  have hb : (w.alloc (.cells #[.int .i64 x] 3)).cell? ⟨w.heap.size, 0, none⟩ = some (.int .i64 x) := by
    have := alloc_new w (.cells #[.int .i64 x] 3)
    simp only [World.cell?, this]; rfl
  have Z : RefZ (w.alloc (.cells #[.int .i64 x] 3)) n pr cls G := RefZ_kept h ((Turn.refl (fun _ => False) w).alloc _) (fun _ _ h => h)
  by_cases h1 : 1 ≤ x
  · by_cases h2 : x ≤ 1048576
    · by_cases h3 : sumI cls + clsOf x ≤ 2097152
      · have e : allocNext cls x = cls ++ [clsOf x] := by unfold allocNext; rw [if_pos ⟨h1, h2, h3⟩]
        rw [e]
        exact ralloc_some w n pr x (clsOf x) cls G hl (rall_one _ n pr w.heap.size x cls G Z (by simp; omega) h1 h2 hb (fun hF => by have := hl _ hF; omega) h3)
      · have e : allocNext cls x = cls := by unfold allocNext; rw [if_neg (fun hh => h3 hh.2.2)]
        rw [e]
        exact ralloc_none w n pr x 22 cls G h rfl (rall_full _ n pr w.heap.size x cls G Z h1 h2 hb (by omega))
    · have e : allocNext cls x = cls := by unfold allocNext; rw [if_neg (fun hh => h2 hh.2.1)]
      rw [e]
      exact ralloc_none w n pr x 22 cls G h rfl (rall_great _ n pr w.heap.size x cls G Z (by omega) hb)
  · have e : allocNext cls x = cls := by unfold allocNext; rw [if_neg (fun hh => h1 hh.1)]
    rw [e]
    exact ralloc_none w n pr x 21 cls G h rfl (rall_small _ pr w.heap.size x (by omega) hb)

def RNewPost (w : World) (n : Nat) (e : Ending) (w' : World) : Prop :=
  ∃ pr, e = .returned (.tuple #[.pointer (some ⟨pr, 0, none⟩), .int .i64 0]) ∧ RefZ w' n pr [] (fun k => w.heap.size ≤ k ∧ k < w'.heap.size) ∧ Turn (fun _ => False) w w'
theorem ref_new (w : World) (n : Nat) (hn : n ≤ w.heap.size) : Calls Try.prog 5 #[.int .i64 2097152] w (RNewPost w n) := by
  have fin : RNewPost w n (.returned (.tuple #[.pointer (some ⟨w.heap.size, 0, none⟩), .int .i64 0])) (w.alloc (.cells #[.int .i64 2097152, .int .i64 16, .slice none 0 0] 65)) := by
    refine ⟨w.heap.size, rfl, ⟨.slice none 0 0, [], ⟨alloc_new _ _, World.ownsRow_nil _ _ _ _, rfl, hn⟩, fun k hk => ?_, by simp, by decide, by decide⟩, (Turn.refl _ w).alloc _⟩
    rcases hk with rfl | hk
    · simp
    · cases hk
  have FIN := Lib.hid fin
  clear fin hn
  go_enter Try.func5, Try.ntmps5
  go_wp2_with fail
  go_ret2
  exact FIN.out
end Go.Proofs.Ytccblcnjeekhbaa
