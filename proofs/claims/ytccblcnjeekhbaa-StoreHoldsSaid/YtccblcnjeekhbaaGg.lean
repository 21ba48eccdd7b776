/- The numbers under which this program holds the lock's functions and types, and that it holds them. -/
import Derived.Test.YtccblcnjeekhbaaProg
import Derived.Conc.RwLib
import Derived.Conc.MuData
import Derived.KernelRfl
import Derived.Shelf.Sort.Plain
import Derived.Test.YtccblcnjeekhbaaGf
import Derived.Sort.OwnSortedInts
import Derived.Maps.OwnSet
import Derived.Maps.RangeWalk
import Derived.OwnWalk
import Derived.Deep.RegionHeld3
import Derived.Test.YtccblcnjeekhbaaGe
import Derived.Conc.MuLone
import Derived.Defers
namespace Go.Proofs.Ytccblcnjeekhbaa
abbrev Try.muLink : Go.Conc.Locks.MuLink := { lock := 24, unlock := 25, ilock := 37, iunlock := 38, lockSlow := 55, unlockSlow := 58, disable := 51, enable := 53, acquire := 54, relMerge := 56, cas32 := 52, add32 := 57, tMutex := 82, tIMutex := 80, tPMutex := 111, tPIMutex := 123, tPI32 := 125, tUP := 127, tNoCopy := 77, tU32 := 78 }
theorem Try.muLib : Go.Conc.Locks.MuLib Try.prog Try.muLink :=
  ⟨Try.func24, Try.func25, Try.func37, Try.func38, Try.func51, Try.func53, Try.func54, Try.func56, Try.func52, Try.func57, Try.underlying80, Try.runUnderlying80, Try.sizeOf80, Try.isAgg80, Try.zeroValue80, Try.underlying82, Try.runUnderlying82, Try.sizeOf82, Try.isAgg82, Try.zeroValue82, Try.underlying111, Try.runUnderlying111, Try.sizeOf111, Try.isAgg111, Try.zeroValue111, Try.underlying123, Try.runUnderlying123, Try.sizeOf123, Try.isAgg123, Try.zeroValue123, Try.underlying125, Try.runUnderlying125, Try.sizeOf125, Try.isAgg125, Try.zeroValue125, Try.underlying127, Try.runUnderlying127, Try.sizeOf127, Try.isAgg127, Try.zeroValue127, Try.underlying77, Try.runUnderlying77, Try.sizeOf77, Try.isAgg77, Try.zeroValue77, Try.underlying21, Try.runUnderlying21, Try.sizeOf21, Try.isAgg21, Try.zeroValue21, (by kernel_rfl)⟩
end Go.Proofs.Ytccblcnjeekhbaa
/-
  DERIVED: THE SHELF's CONTRACTS AT THIS DUMP, IN PLAIN WORDS (tools/lay-plain.mjs out of 'TryShelf.lean', which tools/lay-shelf.mjs wrote): THE SAME DECLARATIONS UNDER THE SAME NAMES: 'import', 'namespace', 'open', 'def', 'theorem' AND NOTHING ELSE: no command of the shelf's: FOR A HAND-IN. Each laying: the table of numbers ('.._ren') and one theorem, a field a fact of the dump's own or the kernel's comparison; each contract: ONE APPLICATION.
-/
namespace Go.Proofs.Ytccblcnjeekhbaa
open Go.Shelf Go.Proofs
def Try.lays189_ren : Go.Shelf.Ren := ⟨fun | 189 => 59 | 125 => 70 | 257 => 69 | 128 => 80 | 129 => 81 | 294 => 71 | 295 => 72 | 296 => 73 | 297 => 74 | 298 => 75 | 299 => 76 | 216 => 77 | 300 => 78 | 301 => 79 | 328 => 82 | 329 => 83 | 330 => 84 | 331 => 85 | 332 => 86 | 215 => 87 | 343 => 88 | n => n, fun | 28 => 22 | 3 => 3 | 46 => 133 | 0 => 0 | 51 => 78 | 53 => 39 | 4 => 4 | 183 => 142 | 182 => 141 | 131 => 102 | 5 => 5 | 9 => 9 | 218 => 149 | 222 => 153 | 228 => 155 | 229 => 36 | n => n, fun | n => n⟩
theorem Try.lays189 : Go.Proofs.Lays.n189 Try.prog Try.lays189_ren := {
  mixed := by kernel_rfl
  f125 := Try.func70.trans (congrArg some (by kernel_rfl))
  f128 := Try.func80.trans (congrArg some (by kernel_rfl))
  f129 := Try.func81.trans (congrArg some (by kernel_rfl))
  f189 := Try.func59.trans (congrArg some (by kernel_rfl))
  f215 := Try.func87.trans (congrArg some (by kernel_rfl))
  f216 := Try.func77.trans (congrArg some (by kernel_rfl))
  f257 := Try.func69.trans (congrArg some (by kernel_rfl))
  f294 := Try.func71.trans (congrArg some (by kernel_rfl))
  f295 := Try.func72.trans (congrArg some (by kernel_rfl))
  f296 := Try.func73.trans (congrArg some (by kernel_rfl))
  f297 := Try.func74.trans (congrArg some (by kernel_rfl))
  f298 := Try.func75.trans (congrArg some (by kernel_rfl))
  f299 := Try.func76.trans (congrArg some (by kernel_rfl))
  f300 := Try.func78.trans (congrArg some (by kernel_rfl))
  f301 := Try.func79.trans (congrArg some (by kernel_rfl))
  f328 := Try.func82.trans (congrArg some (by kernel_rfl))
  f329 := Try.func83.trans (congrArg some (by kernel_rfl))
  f330 := Try.func84.trans (congrArg some (by kernel_rfl))
  f331 := Try.func85.trans (congrArg some (by kernel_rfl))
  f332 := Try.func86.trans (congrArg some (by kernel_rfl))
  f343 := Try.func88.trans (congrArg some (by kernel_rfl))
  t0 := Try.underlying0
  a0 := Try.isAgg0
  z0 := Try.sizeOf0
  v0 := Try.zeroValue0
  t3 := Try.underlying3
  a3 := Try.isAgg3
  z3 := Try.sizeOf3
  v3 := Try.zeroValue3
  t4 := Try.underlying4
  a4 := Try.isAgg4
  z4 := Try.sizeOf4
  v4 := Try.zeroValue4
  t5 := Try.underlying5
  a5 := Try.isAgg5
  z5 := Try.sizeOf5
  v5 := Try.zeroValue5
  t9 := Try.underlying9
  a9 := Try.isAgg9
  z9 := Try.sizeOf9
  v9 := Try.zeroValue9
  t28 := Try.underlying22
  a28 := Try.isAgg22
  z28 := Try.sizeOf22
  v28 := Try.zeroValue22
  t46 := Try.underlying133
  a46 := Try.isAgg133
  z46 := Try.sizeOf133
  v46 := Try.zeroValue133
  t51 := Try.underlying78
  a51 := Try.isAgg78
  z51 := Try.sizeOf78
  v51 := Try.zeroValue78
  t53 := Try.underlying39
  a53 := Try.isAgg39
  z53 := Try.sizeOf39
  v53 := Try.zeroValue39
  t131 := Try.underlying102
  a131 := Try.isAgg102
  z131 := Try.sizeOf102
  v131 := Try.zeroValue102
  t182 := Try.underlying141
  a182 := Try.isAgg141
  z182 := Try.sizeOf141
  v182 := Try.zeroValue141
  t183 := Try.underlying142
  a183 := Try.isAgg142
  z183 := Try.sizeOf142
  v183 := Try.zeroValue142
  t218 := Try.underlying149
  a218 := Try.isAgg149
  z218 := Try.sizeOf149
  v218 := Try.zeroValue149
  t222 := Try.underlying153
  a222 := Try.isAgg153
  z222 := Try.sizeOf153
  v222 := Try.zeroValue153
  t228 := Try.underlying155
  a228 := Try.isAgg155
  z228 := Try.sizeOf155
  v228 := Try.zeroValue155
  t229 := Try.underlying36
  a229 := Try.isAgg36
  z229 := Try.sizeOf36
  v229 := Try.zeroValue36 }
open Go.Sort Go.RowKit in
theorem Try.slices_Sort_int (blk off cap : Nat) (zs : List Int) (w : World) (hH : Holds (Value.int .i64) w blk off zs.toArray) (hblk : blk < w.heap.size) (hsz : zs.length < 4611686018427387904) :
    Calls Try.prog 59 #[.slice (some ⟨blk, off, none⟩) zs.length cap] w fun e w' =>
      e = .returned (.tuple #[]) ∧ ∃ n os, w' = grow (putRow (Value.int .i64) (Sort.ahead w n) blk off (zs.mergeSort fun x y => decide (x ≤ y)).toArray) os := Any.slices_Sort_int Try.lays189 blk off cap zs w hH hblk hsz
end Go.Proofs.Ytccblcnjeekhbaa
/- The store's told: the handles, sorted; walked. -/
namespace Go.Proofs.Ytccblcnjeekhbaa
open Go.RowKit Go.Maps Go.Sort Go.Proofs.Ytccblcnjeekhbaa.PStoreHolds
set_option linter.unusedVariables false
set_option linter.unusedSimpArgs false

theorem tidy_mapH (ks : List S47) : Tidy (mapH ks) := by
  induction ks using snoc_ind with
  | h0 => exact tidy_empty
  | h1 l p ih => rw [mapH_snoc]; exact ih.put (isKey_kI _) _
theorem size_mapH_le (ks : List S47) : Maps.size (mapH ks) ≤ ks.length := by
  induction ks using snoc_ind with
  | h0 => exact Nat.le_refl _
  | h1 l p ih =>
    rw [mapH_snoc, size_put (tidy_mapH l), List.length_append]
    split <;> simp <;> omega
theorem sorted_handles {ks : List S47} (hr : Rising ks) {ss : List Int} (hp : ss.Perm (ks.map (fun x => x.f0))) : ss.mergeSort (fun x y => decide (x ≤ y)) = ks.map (fun x => x.f0) := by
  have tr : ∀ a b c : Int, decide (a ≤ b) = true → decide (b ≤ c) = true → decide (a ≤ c) = true := fun a b c h1 h2 => by simp only [decide_eq_true_eq] at *; omega
  have tot : ∀ a b : Int, (decide (a ≤ b) || decide (b ≤ a)) = true := fun a b => by simp only [Bool.or_eq_true, decide_eq_true_eq]; omega
  refine List.Perm.eq_of_pairwise (le := fun a b => decide (a ≤ b) = true) (fun a b _ _ h1 h2 => ?_) (List.pairwise_mergeSort tr tot ss) ?_ ((List.mergeSort_perm ss _).trans hp)
  · simp only [decide_eq_true_eq] at h1 h2; omega
  · refine List.pairwise_map.2 (hr.imp ?_)
    intro a b h
    simp only [decide_eq_true_eq]
    omega
theorem held_shape {pa po : Addr} {v : Value} {y : DataW Unit × List MemPlace} (h : heldE pa po v = some y) : ∃ c : Option S45, v = heldOf pa po c := by
  rcases heldE_some h with rfl | ⟨x, rfl⟩
  · exact ⟨none, rfl⟩
  · exact ⟨some x, rfl⟩
theorem keyI_shape (key : Value) (kl : Lit) (h : keyOf Try.prog 3 key = some kl) : ∃ x, key = Value.int .i64 x := by
  obtain ⟨x, rfl, _⟩ := Maps.keyOf_int_inv Try.underlying3 h
  exact ⟨x, rfl⟩

set_option maxRecDepth 100000 in
set_option maxHeartbeats 4000000 in
theorem told_call {mu : Int} {n ps mb : Nat} {pa po : Addr} {nx : Int} {v : Value} {xs : List S41} {ks : List S47} {w : World} (h : StM mu n ps mb pa po nx v xs ks w) (hr : Rising ks) (hk : ks.length < 1599289640401) :
    Calls Try.prog 39 #[.pointer (some ⟨ps, 2, none⟩)] w fun e w' => ∃ (g cap : Nat), e = .returned (.slice (some ⟨g, 0, none⟩) ks.length cap) ∧ w'.ownsRow w.heap.size 3 1 (.slice (some ⟨g, 0, none⟩) ks.length cap) ks.length (ks.map (fun x => Value.int .i64 x.f0)) ∧ Below w.heap.size w w' := by
  obtain ⟨i0, hi, hz0, hz1, hz2⟩ := info_parts info3
  have hown := h.own
  have hbl := hown.lt
  have hpl := (Array.getElem?_eq_some_iff.1 h.hp).1
  have c3 := cell_of (i := 3) (v := .map (some mb)) h.hp rfl
  have hsz := size_mapH_le ks
  have HRi := Lib.hid hr
  clear h hr
  generalize hD : mapH ks = D0 at *
  go_enter Try.func39, Try.ntmps39
  go_wp2_with (first
    | (at_len; refine wpList_len_own _ rfl _ 83 rfl 3 90 Try.underlying83 _ mb _ _ rfl hown ?_)
    | (at_make; refine wpList_make_own _ rfl _ _ 22 rfl w.heap.size 3 i0 (.int .i64 0) 1 Try.underlying22 hi hz0 hz1 _ _ _ (Maps.size D0) rfl rfl rfl (by rw [hz2]; omega) (by unfold maxLen; omega) (Nat.le_refl _) ?_; intro w1 hrow1 hg1; have c3' := (Turn.of_grown (F := fun _ => False) hg1 (fun k hk => by cases hk)).cell c3 (fun h => h))
    | (at_range; refine wpList_range_own _ rfl _ 83 rfl 3 90 key3 Try.underlying83 _ mb _ _ rfl (hown.kept hg1 (by simp)) ?_; intro w0 hrg0 hg0 hs0)
    | go_in)
  go_frame
  have hs1 := hg1.size
  go_loopw [3] (fun v3 wr => ∃ (left : Lit → Bool) (cnt : Nat) (ss : List Int), wr.ranges Try.prog 3 (heldE pa po) mb w1.heap.size ks.length D0 left cnt ∧ ss.length + cnt ≤ Maps.size D0 ∧
      wr.ownsRow w.heap.size 3 1 v3 ss.length (ss.map (Value.int .i64)) ∧ v3 ≠ .slice none 0 0 ∧ CollI D0 left ss ∧ Below w.heap.size w wr)
    (fun _ wr => wr.rangeLeft mb w1.heap.size)
  case atStart =>
    exact ⟨_, _, [], hrg0, by simp, hrow1.kept hg0 (Or.inr (by simp [Value.ownBlock])), by simp, CollI.start D0,
      ((Below.refl _ _).grown hg1 (Nat.le_refl _) (fun j hj => by cases hj)).grown hg0 hg1.size (fun j hj => by cases hj)⟩
  case round =>
    obtain ⟨left, cnt, ss, hrg, hcs, hrow, hnn, hC, hnx⟩ := hrel
    go_wp2_with (first
      | (at_next; refine wpList_next_ranges _ rfl _ rfl 3 key3 (heldE pa po) (Value.int .i64) (heldOf pa po) keyI_shape (fun v y hv => held_shape hv) mb w1.heap.size ks.length _ _ _ rfl hrg ?_ ?_)
      | go_in)
    · intro hc0 hl0
      rcases hrow.2 with ⟨hnil, _⟩ | ⟨g, cap, cur, rfl, hbase, hb, h1, h2, h3, h4⟩
      · exact absurd hnil hnn
      have hH : Holds (Value.int .i64) wr g 0 ss.toArray := holds_of_blockI hb (by simpa using h4)
      have hgl : g < wr.heap.size := (Array.getElem?_eq_some_iff.1 hb).1
      have hc := Try.slices_Sort_int g 0 cap ss wr hH hgl (by omega)
      have hp := CollI.perm HRi.out (hD.symm ▸ hC) hl0
      have hsort := Lib.hid (sorted_handles HRi.out hp)
      have hlen := Lib.hid (show ss.length = ks.length by simpa using hp.length_eq)
      clear hD hsz hcs hC hl0 hp hown
      go_wp2_with (go_at_call 59; refine hc.mono ?_; rintro e w' ⟨rfl, nn, os, rfl⟩)
      have hrs := Lib.hid (ownsRow_sortedI (n := nn) (os := os) (ss := ss) (ts := ss.mergeSort fun x y => decide (x ≤ y)) (by simp) hbase hb h1 h2 h3)
      have hgb := Lib.hid (grownBy_sortedI (w := wr) (g := g) (n := nn) (os := os) (ss.mergeSort fun x y => decide (x ≤ y)).toArray)
      generalize grow (putRow (Value.int IntKind.i64) (Sort.ahead wr nn) g 0 (ss.mergeSort fun x y => decide (x ≤ y)).toArray) os = W at *
      go_ret
      refine ⟨g, cap, by rw [hlen.out]; rfl, ?_, hnx.grown hgb.out hnx.size (fun j hj => by cases hj; exact hbase)⟩
      have := hrs.out
      rw [hsort.out, hlen.out, List.map_map] at this
      exact this
    · intro x c kl yd yp w2 cnt2 hkey hlk hv hat hrg2 hlt hg2 hs2 hen
      obtain ⟨x', ex, rfl, _⟩ := Maps.keyOf_int_inv Try.underlying3 hkey
      cases ex
      have hrow2 := hrow.kept hg2 (Or.inr (row_ne_iter hrow hrg).symm)
      clear hs2
      have HD := Lib.hid hD
      clear hD
      go_wp2_with (first
        | (at_builtin; refine wpList_append_own _ rfl _ _ 22 rfl w.heap.size 3 i0 (.int .i64 0) 1 8 Try.underlying22 hi hz0 hz1 hz2 rfl (by decide) _ _ _ rfl (hrow2.alloc _) ⟨w2.heap.size, 0, none⟩ 1 1 [.int .i64 x] rfl rfl (cell_one_new _ _ _) (by simp [Value.oneCell']) (by unfold maxLen at *; omega) (by omega) (by have := hnx.size; have := hg2.size; simp; omega) ?_; intro v' w3 hown' hg3 hnil3; go_frame)
        | go_in)
      have hrg3 := (hrg2.alloc _).kept hg3 (row_ne_low hrow2 hbl) (row_ne_iter hrow2 hrg2)
      go_roundw
      case rel =>
        refine ⟨_, cnt2, ss ++ [x], hrg3, by simp; omega, by simpa using hown', fun hv' => by have := (hnil3.1 hv').2; omega, hC.step hlk hat, ?_⟩
        exact ((hnx.grown hg2 hnx.size (fun j hj => by cases hj; exact hg1.size)).alloc (by have := hnx.size; have := hg2.size; omega) _).grown hg3 (by have := hnx.size; have := hg2.size; simp; omega) (fun j hj => (hrow2.lt j hj).1)
      case measure => rw [hrg3.left_eq, hrg.left_eq]; exact hlt
end Go.Proofs.Ytccblcnjeekhbaa
/- The store's maps: what is held, in the handles' order; walked. -/
namespace Go.Proofs.Ytccblcnjeekhbaa
open Go.RowKit Go.Maps Go.Proofs.Ytccblcnjeekhbaa.PStoreHolds Go.Proofs.YtccblcnjeekhbaaW.PrintWords Go.Proofs.YtccblcnjeekhbaaW.PrintLast Go.Proofs.YtccblcnjeekhbaaW.PrintMore
set_option linter.unusedVariables false
set_option linter.unusedSimpArgs false

theorem held_look {mu : Int} {n ps mb : Nat} {pa po : Addr} {nx : Int} {v : Value} {xs : List S41} {ks : List S47} {w : World} (h : StM mu n ps mb pa po nx v xs ks w) (hr : Rising ks) {x : S47} (hx : x ∈ ks) (hw : (Lit.int .i64 x.f0).wf = true) :
    (Instr.lookup 83 (.map (some mb)) (.int .i64 x.f0) false).run Try.prog w = .ok (heldV pa po x.f1) w := by
  obtain ⟨u, pl, hrun, hu⟩ := h.own.lookup key3 Try.underlying83 (zero90 _) (heldE_zero pa po) (keyOf_int_mk Try.underlying3 hw)
  rw [at_mapH hr hx] at hu
  rw [heldE_inv hu] at hrun
  exact hrun
theorem info47 : (Try.prog.info? 47).map (fun i => (i.zero, i.size, i.bytes)) = some (some (.agg #[.int .i64 0, .int .i64 0, .int .i64 0, .int .i64 0, .int .i64 0, .int .i64 0, .int .i64 0, .int .i64 0, .int .i64 0, .int .i64 0, .int .i64 0]), 11, 88) := by kernel_rfl
theorem keep_b {w w' : World} {b : Nat} {o : Obj} (h : w.heap[b]? = some o) (B : Below w.heap.size w w') : w'.heap[b]? = some o := (B.block b (Array.getElem?_eq_some_iff.1 h).1).trans h
theorem off_call2 (pa po : Addr) (f0 f1 f2 f3 f4 f5 f6 f7 f8 off : Int) (w : World) :
    Calls Try.prog 40 #[.agg #[.pointer (some pa), .int .i64 f0, .int .i64 f1, .int .i64 f2, .int .i64 f3, .int .i64 f4, .int .i64 f5, .int .i64 f6, .int .i64 f7, .int .i64 f8, .pointer (some po), .int .i64 off]] w fun e w' => e = .returned (.int .i64 off) ∧ Below w.heap.size w w' := off_call pa po f0 f1 f2 f3 f4 f5 f6 f7 f8 off w
theorem layout_call2 (pa po : Addr) (f0 f1 f2 f3 f4 f5 f6 f7 f8 off : Int) (w : World) :
    Calls Try.prog 41 #[.agg #[.pointer (some pa), .int .i64 f0, .int .i64 f1, .int .i64 f2, .int .i64 f3, .int .i64 f4, .int .i64 f5, .int .i64 f6, .int .i64 f7, .int .i64 f8, .pointer (some po), .int .i64 off]] w fun e w' => e = .returned (.agg #[.int .i64 f0, .int .i64 f1, .int .i64 f2, .int .i64 f3, .int .i64 f4, .int .i64 f5, .int .i64 f6, .int .i64 f7, .int .i64 f8]) ∧ Below w.heap.size w w' := layout_call pa po f0 f1 f2 f3 f4 f5 f6 f7 f8 off w

/-- a row of another type stays where one has been appended to -/
theorem row_on {wr W w1 : World} {base g cap n : Nat} {xs : List Value} {vl : Value} {ys : List S47} (h : wr.ownsRow base 3 1 (.slice (some ⟨g, 0, none⟩) n cap) n xs) (T : Turn (fun _ => False) wr W) (hl : Kd.R k47 47 W base (fun _ => True) vl ys) (hg : W.grownBy w1 vl.ownBlock) : w1.ownsRow base 3 1 (.slice (some ⟨g, 0, none⟩) n cap) n xs := by
  have h1 := T.row h (fun _ _ h => h)
  obtain ⟨cur, hc⟩ := row_typed h1 g rfl
  have hne := Kd.R_ne hl hc (by decide)
  refine (Turn.of_grown (F := fun k => vl.ownBlock = some k) hg (fun k hk => .inl hk)).row h1 (fun k hk e => ?_)
  have : g = k := by simpa [Value.ownBlock] using hk
  subst this
  exact hne e.symm
theorem blk_on {W w1 : World} {base b : Nat} {cs : Array Value} {vl : Value} {ys : List S47} (h : W.heap[b]? = some (.cells cs 90 (0, 0))) (hl : Kd.R k47 47 W base (fun _ => True) vl ys) (hg : W.grownBy w1 vl.ownBlock) : w1.heap[b]? = some (.cells cs 90 (0, 0)) :=
  (hg.block b (Array.getElem?_eq_some_iff.1 h).1 (Kd.R_ne hl h (by decide))).trans h
set_option maxRecDepth 100000 in
set_option maxHeartbeats 16000000 in
theorem maps_call {mu : Int} {n ps mb : Nat} {pa po : Addr} {nx : Int} {v : Value} {xs : List S41} {ks : List S47} {w : World} (h : StM mu n ps mb pa po nx v xs ks w) (hr : Rising ks) (hk : ks.length < 1599289640401) (hwf : ∀ x ∈ ks, (Lit.int .i64 x.f0).wf = true) :
    Calls Try.prog 27 #[.pointer (some ⟨ps, 0, none⟩)] w fun e w' => ∃ vl, e = .returned vl ∧ Kd.R k47 47 w' w.heap.size (fun _ => True) vl ks ∧ Below w.heap.size w w' := by
  have ht := Lib.hid (told_call h hr hk)
  have HS := Lib.hid h
  have HR := Lib.hid hr
  have HW := Lib.hid hwf
  clear h hr hwf
  go_enter Try.func27, Try.ntmps27
  go_wp2_with fail
  refine ht.out.mono ?_
  rintro e w1 ⟨g, cap, rfl, ho1, B1⟩
  have R0 := Lib.hid (Kd.R_nil k47 47 w1 w.heap.size (fun _ => True))
  have HO1 := Lib.hid ho1
  have BB1 := Lib.hid B1
  clear ho1 B1 ht
  have hks0 : (0 : Int) ≤ (ks.length : Int) := by omega
  go_wp2_with fail
  go_loopg [3, 12] (ks.length + 1) (fun kq v3 v12 w' => ∃ j : Nat, v12 = .int .i64 j ∧ Hid ((j + kq = ks.length + 1 ∧ j ≤ ks.length) ∧ Below w.heap.size w w' ∧ w'.ownsRow w.heap.size 3 1 (.slice (some ⟨g, 0, none⟩) ks.length cap) ks.length (ks.map (fun x => Value.int .i64 x.f0)) ∧ Kd.R k47 47 w' w.heap.size (fun _ => True) v3 (ks.take j)))
  case atStart => exact ⟨0, rfl, Lib.hid ⟨⟨by omega, by omega⟩, BB1.out, HO1.out, R0.out⟩⟩
  case round =>
    clear BB1 HO1 R0
    obtain ⟨j, rfl, HI⟩ := hrel
    obtain ⟨⟨hk2, hjl⟩, BB, HO, RL⟩ := HI.out
    clear HI
    by_cases hj : j < ks.length
    · have S1 := Lib.hid (HS.out.quiet (Turn.of_below (F := fun _ => False) BB (Nat.le_refl _)))
      have c3 := cell_of (i := 3) (v := .map (some mb)) S1.out.hp rfl
      have hcg := HO.cellAt j (by simpa using hj)
      have hlk := held_look S1.out HR.out (List.getElem_mem hj) (HW.out _ (List.getElem_mem hj))
      have T1 := Lib.hid (show ks.take (j + 1) = ks.take j ++ [ks[j]] from List.take_succ_eq_append_getElem hj)
      rw [List.getElem?_map, List.getElem?_eq_getElem hj, Option.map_some] at hcg
      have hjx : (j : Int) < (ks.length : Int) := by omega
      have hj0 : (0 : Int) ≤ (j : Int) := by omega
      have HOH := Lib.hid HO
      have RLH := Lib.hid RL
      have BBH := Lib.hid BB
      clear HO RL BB
      generalize hx : ks[j] = x at *
      obtain ⟨y, o, f0, f1, f2, f3, f4, f5, f6, f7, f8⟩ := x
      dsimp only [heldV] at hlk
      dsimp only at hcg
      go_wp2_with fail
      have hx0 : (wr.alloc (.cells #[.pointer (some pa), .int .i64 f0, .int .i64 f1, .int .i64 f2, .int .i64 f3, .int .i64 f4, .int .i64 f5, .int .i64 f6, .int .i64 f7, .int .i64 f8, .pointer (some po), .int .i64 o, .pointer none, .int .i64 0] 90)).drew.heap[wr.heap.size]? = some (.cells #[.pointer (some pa), .int .i64 f0, .int .i64 f1, .int .i64 f2, .int .i64 f3, .int .i64 f4, .int .i64 f5, .int .i64 f6, .int .i64 f7, .int .i64 f8, .pointer (some po), .int .i64 o, .pointer none, .int .i64 0] 90 (0, 0)) := alloc_new wr _
      have hl0 := Lib.hid (show Kd.R k47 47 (wr.alloc (.cells #[.pointer (some pa), .int .i64 f0, .int .i64 f1, .int .i64 f2, .int .i64 f3, .int .i64 f4, .int .i64 f5, .int .i64 f6, .int .i64 f7, .int .i64 f8, .pointer (some po), .int .i64 o, .pointer none, .int .i64 0] 90)).drew w.heap.size (fun _ => True) u3 (ks.take j) from Kd.R_drew (Kd.R_alloc RLH.out _))
      have hb0 := Lib.hid (show Below w.heap.size w (wr.alloc (.cells #[.pointer (some pa), .int .i64 f0, .int .i64 f1, .int .i64 f2, .int .i64 f3, .int .i64 f4, .int .i64 f5, .int .i64 f6, .int .i64 f7, .int .i64 f8, .pointer (some po), .int .i64 o, .pointer none, .int .i64 0] 90)).drew from Below.drew (Below.alloc BBH.out BBH.out.size _))
      have ht0 := Lib.hid (show Turn (fun _ => False) wr (wr.alloc (.cells #[.pointer (some pa), .int .i64 f0, .int .i64 f1, .int .i64 f2, .int .i64 f3, .int .i64 f4, .int .i64 f5, .int .i64 f6, .int .i64 f7, .int .i64 f8, .pointer (some po), .int .i64 o, .pointer none, .int .i64 0] 90)).drew from ((Turn.refl _ wr).alloc _).drew)
      have hx1 := Lib.hid hx0
      clear hx0
      have H6 := Lib.hid (show ∀ x : World, x.heap[wr.heap.size]? = some (.cells #[.pointer (some pa), .int .i64 f0, .int .i64 f1, .int .i64 f2, .int .i64 f3, .int .i64 f4, .int .i64 f5, .int .i64 f6, .int .i64 f7, .int .i64 f8, .pointer (some po), .int .i64 o, .pointer none, .int .i64 0] 90 (0, 0)) → x.cell? ⟨wr.heap.size, 0, none⟩ = some (.pointer (some pa)) ∧ x.cell? ⟨wr.heap.size, 1, none⟩ = some (.int .i64 f0) ∧ x.cell? ⟨wr.heap.size, 2, none⟩ = some (.int .i64 f1) ∧ x.cell? ⟨wr.heap.size, 3, none⟩ = some (.int .i64 f2) ∧ x.cell? ⟨wr.heap.size, 4, none⟩ = some (.int .i64 f3) ∧ x.cell? ⟨wr.heap.size, 5, none⟩ = some (.int .i64 f4) ∧ x.cell? ⟨wr.heap.size, 6, none⟩ = some (.int .i64 f5) ∧ x.cell? ⟨wr.heap.size, 7, none⟩ = some (.int .i64 f6) ∧ x.cell? ⟨wr.heap.size, 8, none⟩ = some (.int .i64 f7) ∧ x.cell? ⟨wr.heap.size, 9, none⟩ = some (.int .i64 f8) ∧ x.cell? ⟨wr.heap.size, 10, none⟩ = some (.pointer (some po)) ∧ x.cell? ⟨wr.heap.size, 11, none⟩ = some (.int .i64 o) from fun x h => ⟨cell_of h rfl, cell_of h rfl, cell_of h rfl, cell_of h rfl, cell_of h rfl, cell_of h rfl, cell_of h rfl, cell_of h rfl, cell_of h rfl, cell_of h rfl, cell_of h rfl, cell_of h rfl⟩)
      have p0 := H6.out _ hx1.out
      obtain ⟨p0, p1, p2, p3, p4, p5, p6, p7, p8, p9, p10, p11⟩ := p0
      clear hlk hcg c3
      go_region_held3 (fun x => x.cell? ⟨wr.heap.size, 0, none⟩ = some (.pointer (some pa)) ∧ x.cell? ⟨wr.heap.size, 1, none⟩ = some (.int .i64 f0) ∧ x.cell? ⟨wr.heap.size, 2, none⟩ = some (.int .i64 f1) ∧ x.cell? ⟨wr.heap.size, 3, none⟩ = some (.int .i64 f2) ∧ x.cell? ⟨wr.heap.size, 4, none⟩ = some (.int .i64 f3) ∧ x.cell? ⟨wr.heap.size, 5, none⟩ = some (.int .i64 f4) ∧ x.cell? ⟨wr.heap.size, 6, none⟩ = some (.int .i64 f5) ∧ x.cell? ⟨wr.heap.size, 7, none⟩ = some (.int .i64 f6) ∧ x.cell? ⟨wr.heap.size, 8, none⟩ = some (.int .i64 f7) ∧ x.cell? ⟨wr.heap.size, 9, none⟩ = some (.int .i64 f8) ∧ x.cell? ⟨wr.heap.size, 10, none⟩ = some (.pointer (some po)) ∧ x.cell? ⟨wr.heap.size, 11, none⟩ = some (.int .i64 o))
        ((first | exact H6.out _ hxd.out | exact H6.out _ (alloc_old hxb.out _) | exact H6.out _ hxb.out | exact H6.out _ hxa.out | exact H6.out _ hx1.out))
        ((first | (go_at_call 40; refine (off_call2 pa po f0 f1 f2 f3 f4 f5 f6 f7 f8 o _).mono ?_; rintro e wa ⟨rfl, ha⟩; have hxa := Lib.hid (keep_b hx1.out ha); have hla := Lib.hid (Kd.R_below hl0.out ha); have hba := Lib.hid (hb0.out.trans (ha.mono hb0.out.size)); have hta := Lib.hid (ht0.out.then (Turn.of_below (F := fun _ => False) ha (Nat.le_refl _)) (fun _ h => h.elim))) | (go_at_call 41; refine (layout_call2 pa po f0 f1 f2 f3 f4 f5 f6 f7 f8 o _).mono ?_; rintro e wb ⟨rfl, hb⟩; have hxb := Lib.hid (keep_b hxa.out hb); have hlb := Lib.hid (Kd.R_below hla.out hb); have hbb := Lib.hid (hba.out.trans (hb.mono hba.out.size)); have htb := Lib.hid (hta.out.then (Turn.of_below (F := fun _ => False) hb (Nat.le_refl _)) (fun _ h => h.elim))) | (refine Kd.R_append_step k47 (w0 := w) (W := wb) w.heap.size (by simp [Region.wanted]) (.tmp 26) (.tmp 36) 24 47 (.agg #[.int .i64 0, .int .i64 0, .int .i64 0, .int .i64 0, .int .i64 0, .int .i64 0, .int .i64 0, .int .i64 0, .int .i64 0, .int .i64 0, .int .i64 0]) 88 rfl Try.underlying24 info47 rfl (by decide) (by decide) u3 (ks.take j) ⟨y, ⟨o, ⟨f0, f1, f2, f3, f4, f5, f6, f7, f8⟩⟩⟩ [.int .i64 y, .int .i64 o, .int .i64 f0, .int .i64 f1, .int .i64 f2, .int .i64 f3, .int .i64 f4, .int .i64 f5, .int .i64 f6, .int .i64 f7, .int .i64 f8] (fun _ => True) (fun _ => False) rfl rfl (k47_mkM _ _ _ _) (fun _ h => h.elim) (fun _ _ => trivial) hlb.out hbb.out hbb.out.size (by simp; omega) ?_; intro v1 w1' hR hB hg hat; have hxd := Lib.hid (blk_on hxb.out hlb.out hg); have hRR := Lib.hid hR; have hBB := Lib.hid hB; have hGG := Lib.hid hg; clear hR hB hg hat)))
      have hod := Lib.hid (row_on HOH.out htb.out hlb.out hGG.out)
      rw [← T1.out] at hRR
      clear p0 p1 p2 p3 p4 p5 p6 p7 p8 p9 p10 p11
      go_wp2_with fail
      go_roundg (gk - 1)
      case measure => omega
      case rel => exact ⟨j + 1, by simp, Lib.hid ⟨⟨by omega, by omega⟩, hBB.out, hod.out, hRR.out⟩⟩
    · have hj' : j = ks.length := by omega
      subst hj'
      rw [List.take_length] at RL
      go_wp2_with fail
      go_ret
      exact ⟨_, rfl, RL, BB⟩
end Go.Proofs.Ytccblcnjeekhbaa
/- The store's Hold, walked. -/
namespace Go.Proofs.Ytccblcnjeekhbaa
open Go.RowKit Go.Maps Go.MuLone Go.Proofs.Ytccblcnjeekhbaa.PStoreHolds Go.Proofs.YtccblcnjeekhbaaW.PrintWords Go.Proofs.YtccblcnjeekhbaaW.PrintLast Go.Proofs.YtccblcnjeekhbaaW.PrintMore
set_option linter.unusedVariables false
set_option linter.unusedSimpArgs false

theorem frozen_of {w : World} {b i : Nat} {cs : Array Value} {t : TypeId} (h : w.heap[b]? = some (.cells cs t (0, 0))) : w.frozen? ⟨b, i, none⟩ = false := by
  simp [World.frozen?, h]
/-- the lock is taken, or given back -/
theorem StM.lock {mu mu' : Int} {n ps mb : Nat} {pa po : Addr} {nx : Int} {v : Value} {xs : List S41} {ks : List S47} {w : World} (h : StM mu n ps mb pa po nx v xs ks w) : StM mu' n ps mb pa po nx v xs ks (w.setCell ⟨ps, 0, none⟩ (.int .i32 mu')) := by
  have T : Turn (fun k => k = ps) w (w.setCell ⟨ps, 0, none⟩ (.int .i32 mu')) := (Turn.refl _ _).setCell _ _ (.inl rfl)
  exact ⟨set_field h.hp _ rfl, Kd.R_set h.row h.hp (by decide) 0 _, T.map h.own h.ne.symm, h.hps, h.hmb⟩

/-- the stores into the result's block R, and what they leave -/
def st3 (w : World) (R : Nat) : World := ((w.setCell ⟨R, 0, none⟩ (.slice none 0 0)).setCell ⟨R, 1, none⟩ (.int .i64 0)).setCell ⟨R, 2, none⟩ (.slice none 0 0)
def RC (w : World) (R : Nat) (a b c : Value) : Prop := w.heap[R]? = some (.cells #[a, b, c] 26 (0, 0))
theorem RC.at0 {w : World} {R : Nat} {a b c : Value} (h : RC w R a b c) : w.cell? ⟨R, 0, none⟩ = some a := cell_of h rfl
theorem RC.at1 {w : World} {R : Nat} {a b c : Value} (h : RC w R a b c) : w.cell? ⟨R, 1, none⟩ = some b := cell_of h rfl
theorem RC.at2 {w : World} {R : Nat} {a b c : Value} (h : RC w R a b c) : w.cell? ⟨R, 2, none⟩ = some c := cell_of h rfl
theorem RC.fr {w : World} {R : Nat} {a b c : Value} (h : RC w R a b c) (i : Nat) : w.frozen? ⟨R, i, none⟩ = false := frozen_of h
theorem RC.set0 {w : World} {R : Nat} {a b c : Value} (h : RC w R a b c) (u : Value) : RC (w.setCell ⟨R, 0, none⟩ u) R u b c := set_field h u rfl
theorem RC.set1 {w : World} {R : Nat} {a b c : Value} (h : RC w R a b c) (u : Value) : RC (w.setCell ⟨R, 1, none⟩ u) R a u c := set_field h u rfl
theorem RC.set2 {w : World} {R : Nat} {a b c : Value} (h : RC w R a b c) (u : Value) : RC (w.setCell ⟨R, 2, none⟩ u) R a b u := set_field h u rfl
theorem far_set {w : World} {R k i : Nat} {o : Obj} (h : w.heap[k]? = some o) (hne : R ≠ k) (u : Value) : (w.setCell ⟨R, i, none⟩ u).heap[k]? = some o := (Below.heap_setCell w ⟨R, i, none⟩ u k hne.symm).trans h
theorem R_turn {α : Type} {d : Kd α} {e : Nat} {w w' : World} {base : Nat} {ok : Nat → Prop} {v : Value} {xs : List α} {R : Nat} {cells : Array Value} {t : TypeId} (h : Kd.R d e w base ok v xs) (T : Turn (fun k => k = R) w w') (hb : w.heap[R]? = some (.cells cells t (0, 0))) (ht : ∀ q, q ∈ e :: d.E → q ≠ t) {base' : Nat} (hl : base' ≤ base) : Kd.R d e w' base' (fun _ => True) v xs := by
  refine Kd.R_lower (Kd.R_mono (Kd.R_step (Kd.R_bound h) (fun k hk hlt => T.block k hlt ?_)) (fun _ _ => trivial)) hl
  rintro rfl
  obtain ⟨_, _, _, q, hq, cs, hc⟩ := hk
  rw [hc] at hb
  injection hb with hb
  injection hb with _ hb
  exact ht q hq hb
theorem turn6 (w : World) (R : Nat) (a b c d e f : Value) : Turn (fun k => k = R) w ((((((w.setCell ⟨R, 0, none⟩ a).setCell ⟨R, 1, none⟩ b).setCell ⟨R, 2, none⟩ c).setCell ⟨R, 0, none⟩ d).setCell ⟨R, 1, none⟩ e).setCell ⟨R, 2, none⟩ f) :=
  ((((((Turn.refl (fun k => k = R) w).setCell _ _ (.inl rfl)).setCell _ _ (.inl rfl)).setCell _ _ (.inl rfl)).setCell _ _ (.inl rfl)).setCell _ _ (.inl rfl)).setCell _ _ (.inl rfl)
set_option maxRecDepth 100000 in
set_option maxHeartbeats 2000000 in
theorem hold_call {n ps mb : Nat} {pa po : Addr} {nx : Int} {v : Value} {xs : List S41} {ks : List S47} {w : World} (h : StH n ps mb pa po nx v xs ks w) (hr : Rising ks) (hk : ks.length < 1599289640401) (hwf : ∀ x ∈ ks, (Lit.int .i64 x.f0).wf = true) (hn : xs.length < 5864062014805) :
    Calls Try.prog 13 #[.pointer (some ⟨ps, 0, none⟩)] w fun e w' => ∃ v1 vl, e = .returned (.agg #[v1, .int .i64 nx, vl]) ∧ Kd.R k41 41 w' w.heap.size (fun _ => True) v1 xs ∧ Kd.R k47 47 w' w.heap.size (fun _ => True) vl ks ∧ Turn (fun k => k = ps) w w' := by
  obtain ⟨A, c, rfl, hcc, _⟩ := Kd.R_reads h.row
  have S0 := Lib.hid (fun o => h.quiet ((Turn.refl (fun _ => False) w).alloc o))
  have HS := Lib.hid h
  have HR := Lib.hid hr
  have HW := Lib.hid hwf
  clear h hr hwf
  go_enter_defers Try.func13, Try.ntmps13
  go_wp2_with fail
  refine (lock_free Try.muLib ⟨ps, 0, none⟩ _ (cell_of (i := 0) (S0.out _).hp rfl) (frozen_of (S0.out _).hp)).mono ?_
  rintro e W2 ⟨rfl, hW2⟩
  have T2 := Lib.hid (show Turn (fun k => k = ps) w W2 by rw [hW2]; exact ((Turn.refl _ w).alloc _).setCell _ _ (.inl rfl))
  have S2 := Lib.hid (show StM 1 n ps mb pa po nx (.slice A xs.length c) xs ks W2 by rw [hW2]; exact (S0.out _).lock)
  have hps := Lib.hid (show ps < w.heap.size from (Array.getElem?_eq_some_iff.1 HS.out.hp).1)
  have R2 := Lib.hid (show W2.heap[w.heap.size]? = some (.cells #[.slice none 0 0, .int .i64 0, .slice none 0 0] 26 (0, 0)) by
    rw [hW2, Below.heap_setCell _ _ _ _ (show w.heap.size ≠ ps by have := hps.out; omega)]
    exact alloc_new w _)
  have hsz2 := Lib.hid (show W2.heap.size = w.heap.size + 1 by rw [hW2]; simp)
  clear hW2 S0
  have k2 := cell_of (i := 2) (v := .int .i64 nx) S2.out.hp rfl
  have k6 := cell_of (i := 6) (v := .slice A xs.length c) S2.out.hp rfl
  go_wp2_with fail
  have HC := Lib.hid (show ∀ x : World, x.heap[ps]? = some (.cells #[.int .i32 1, .int .u32 0, .int .i64 nx, .map (some mb), .pointer (some pa), .pointer (some po), .slice A xs.length c] 87 (0, 0)) → x.cell? ⟨ps, 2, none⟩ = some (.int .i64 nx) ∧ x.cell? ⟨ps, 6, none⟩ = some (.slice A xs.length c) from fun x h => ⟨cell_of h rfl, cell_of h rfl⟩)
  have S20 := Lib.hid (S2.out.quiet (Turn.refl (fun _ => False) W2).drew)
  have R20 := Lib.hid (show W2.drew.heap[w.heap.size]? = some (.cells #[.slice none 0 0, .int .i64 0, .slice none 0 0] 26 (0, 0)) from R2.out)
  have CC := Lib.hid (show Kd.C k41 W2.drew A xs.length xs by obtain ⟨A', c', hv, _, hC⟩ := Kd.R_reads S20.out.row; cases hv; exact hC)
  have hne := Lib.hid (show w.heap.size ≠ ps by have := hps.out; omega)
  go_region_held3 (fun x => x.cell? ⟨ps, 2, none⟩ = some (.int .i64 nx) ∧ x.cell? ⟨ps, 6, none⟩ = some (.slice A xs.length c))
    ((first | with_reducible exact HC.out _ h6.out | with_reducible exact HC.out _ h5.out | with_reducible exact HC.out _ h4.out | with_reducible exact HC.out _ h3.out | with_reducible exact HC.out _ Sb.out.hp | with_reducible exact HC.out _ Sa.out.hp | with_reducible exact HC.out _ S20.out.hp))
    ((first | (go_at_call 26; refine (clone_call A c xs _ CC.out hcc hn).mono ?_; rintro e wa ⟨v1, rfl, hR1, ha⟩; obtain ⟨A1, c1, rfl, _⟩ := Kd.R_reads hR1; have Sa := Lib.hid (S20.out.quiet (Turn.of_below (F := fun _ => False) ha (Nat.le_refl _))); have ra := Lib.hid (keep_b R20.out ha); have HR1 := Lib.hid hR1; have HA := Lib.hid ha; clear hR1 ha) | (go_at_call 27; refine (maps_call Sa.out HR.out hk HW.out).mono ?_; rintro e wb ⟨vl, rfl, hRl, hb⟩; obtain ⟨A2, c2, rfl, _⟩ := Kd.R_reads hRl; have Sb := Lib.hid (Sa.out.quiet (Turn.of_below (F := fun _ => False) hb (Nat.le_refl _))); have rb : RC wb w.heap.size (.slice none 0 0) (.int .i64 0) (.slice none 0 0) := keep_b ra.out hb; have r0 := rb.at0; have r1 := rb.at1; have r2 := rb.at2; have q0 := rb.fr 0; have q1 := rb.fr 1; have q2 := rb.fr 2; have rb1 := rb.set0 (.slice none 0 0); have r00 := rb1.at0; have rb2 := rb1.set1 (.int .i64 0); have r11 := rb2.at1; have rb3 := rb2.set2 (.slice none 0 0); have r22 := rb3.at2; have rb4 := rb3.set0 (.slice A1 xs.length c1); have rb5 := rb4.set1 (.int .i64 nx); have RB6 := Lib.hid (rb5.set2 (.slice A2 ks.length c2)); have h1 := far_set (i := 0) Sb.out.hp hne.out (.slice none 0 0); have h2 := far_set (i := 1) h1 hne.out (.int .i64 0); have h3 := Lib.hid (far_set (i := 2) h2 hne.out (.slice none 0 0)); have h4 := Lib.hid (far_set (i := 0) h3.out hne.out (.slice A1 xs.length c1)); have h5 := Lib.hid (far_set (i := 1) h4.out hne.out (.int .i64 nx)); have h6 := Lib.hid (far_set (i := 2) h5.out hne.out (.slice A2 ks.length c2)); have HRl := Lib.hid hRl; have HB := Lib.hid hb; clear rb rb1 rb2 rb3 rb4 rb5 h1 h2 hRl hb)))
  have T6 := Lib.hid (turn6 wb w.heap.size (.slice none 0 0) (.int .i64 0) (.slice none 0 0) (.slice A1 xs.length c1) (.int .i64 nx) (.slice A2 ks.length c2))
  rename_i hh
  clear hh h3 h4 h5 r0 r1 r2 q0 q1 q2 r00 r11 r22 k2 k6
  generalize (((((wb.setCell ⟨w.heap.size, 0, none⟩ (.slice none 0 0)).setCell ⟨w.heap.size, 1, none⟩ (.int .i64 0)).setCell ⟨w.heap.size, 2, none⟩ (.slice none 0 0)).setCell ⟨w.heap.size, 0, none⟩ (.slice A1 xs.length c1)).setCell ⟨w.heap.size, 1, none⟩ (.int .i64 nx)).setCell ⟨w.heap.size, 2, none⟩ (.slice A2 ks.length c2) = W6 at *
  have rb := Lib.hid (keep_b ra.out HB.out)
  have b2 := Lib.hid (show w.heap.size ≤ W2.drew.heap.size by rw [show W2.drew.heap.size = W2.heap.size from rfl, hsz2.out]; exact Nat.le_succ _)
  have Q1 := Lib.hid (R_turn (Kd.R_below HR1.out HB.out) T6.out rb.out (by decide) b2.out)
  have Q2 := Lib.hid (R_turn HRl.out T6.out rb.out (by decide) (Nat.le_trans b2.out HA.out.size))
  have TT := Lib.hid (show Turn (fun k => k = ps) w W6 from (((T2.out.then (Turn.refl (fun k => k = ps) W2).drew (fun _ h => .inl h)).then (Turn.of_below (F := fun _ => False) HA.out (Nat.le_refl _)) (fun _ h => h.elim)).then (Turn.of_below (F := fun _ => False) HB.out (Nat.le_refl _)) (fun _ h => h.elim)).then T6.out (fun i hi => .inr (by omega)))
  have z0 := RB6.out.at0
  have z1 := RB6.out.at1
  have z2 := RB6.out.at2
  go_wp2_with fail
  refine leaves_cons (f := 25) (args := #[.pointer (some ⟨ps, 0, none⟩)]) (by simp) (by simp [go_sem]) ?_
  refine (unlock_deferred Try.muLib ⟨ps, 0, none⟩ .returning _ (cell_of (i := 0) h6.out rfl) (frozen_of h6.out)).mono ?_
  rintro e u' w'' ⟨rfl, rfl, rfl⟩
  have hne2 : ps ≠ w.heap.size := fun e => hne.out e.symm
  have rb7 : RC (W6.setCell ⟨ps, 0, none⟩ (.int .i32 0)) w.heap.size (.slice A1 xs.length c1) (.int .i64 nx) (.slice A2 ks.length c2) := far_set (i := 0) RB6.out hne2 _
  have T7 : Turn (fun k => k = ps) w (W6.setCell ⟨ps, 0, none⟩ (.int .i32 0)) := TT.out.setCell _ _ (.inl rfl)
  have Q17 := Kd.R_set Q1.out h6.out (by decide) 0 (.int .i32 0)
  have Q27 := Kd.R_set Q2.out h6.out (by decide) 0 (.int .i32 0)
  have y0 := rb7.at0
  have y1 := rb7.at1
  have y2 := rb7.at2
  clear z0 z1 z2 rb7 RB6 h6 T6 Q1 Q2 TT
  generalize W6.setCell ⟨ps, 0, none⟩ (.int .i32 0) = W7 at *
  refine ⟨.agg #[.slice A1 xs.length c1, .int .i64 nx, .slice A2 ks.length c2], ?_, _, _, rfl, Q17, Q27, T7⟩
  simp [results, Try.results13, go_sem, y0, y1, y2]
end Go.Proofs.Ytccblcnjeekhbaa
