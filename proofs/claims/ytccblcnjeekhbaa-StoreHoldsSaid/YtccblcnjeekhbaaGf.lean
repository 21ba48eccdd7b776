/- The store's map from handles to what is held: as the list of what was put; what a range over it collects. No program's walk in sight. -/
import Derived.Test.YtccblcnjeekhbaaGe
import Derived.Maps.RangeWalk
import Derived.Test.YtccblcnjeekhbaaGb
import Derived.StillTailTactics
import Derived.Test.YtccblcnjeekhbaaGa
namespace Go.Proofs.Ytccblcnjeekhbaa
open Go.RowKit Go.Maps Go.Proofs.Ytccblcnjeekhbaa.PStoreHolds
set_option linter.unusedVariables false

/-- what is held: a map, no walk -/
def heldV (pa po : Addr) (x : S45) : Value := .agg #[.pointer (some pa), .int .i64 x.f1.f0, .int .i64 x.f1.f1, .int .i64 x.f1.f2, .int .i64 x.f1.f3, .int .i64 x.f1.f4, .int .i64 x.f1.f5, .int .i64 x.f1.f6, .int .i64 x.f1.f7, .int .i64 x.f1.f8, .pointer (some po), .int .i64 x.f0, .pointer none, .int .i64 0]
def heldZ : Value := .agg #[.pointer none, .int .i64 0, .int .i64 0, .int .i64 0, .int .i64 0, .int .i64 0, .int .i64 0, .int .i64 0, .int .i64 0, .int .i64 0, .pointer none, .int .i64 0, .pointer none, .int .i64 0]
def rootD (x : S45) : DataW Unit := .agg [.lit (kI x.f0), .lit (kI x.f1.f0), .lit (kI x.f1.f1), .lit (kI x.f1.f2), .lit (kI x.f1.f3), .lit (kI x.f1.f4), .lit (kI x.f1.f5), .lit (kI x.f1.f6), .lit (kI x.f1.f7), .lit (kI x.f1.f8)]
theorem rootD_inj {x y : S45} (h : rootD x = rootD y) : x = y := by
  obtain ⟨o, f0, f1, f2, f3, f4, f5, f6, f7, f8⟩ := x
  obtain ⟨o', g0, g1, g2, g3, g4, g5, g6, g7, g8⟩ := y
  simp only [rootD, DataW.agg.injEq, List.cons.injEq, DataW.lit.injEq, Lit.int.injEq, true_and, and_true] at h
  obtain ⟨rfl, rfl, rfl, rfl, rfl, rfl, rfl, rfl, rfl, rfl⟩ := h
  rfl
theorem heldV_inj {pa po : Addr} {x y : S45} (h : heldV pa po x = heldV pa po y) : x = y := by
  obtain ⟨o, f0, f1, f2, f3, f4, f5, f6, f7, f8⟩ := x
  obtain ⟨o', g0, g1, g2, g3, g4, g5, g6, g7, g8⟩ := y
  simp only [heldV, Value.agg.injEq, Array.mk.injEq, List.cons.injEq, Value.int.injEq, true_and, and_true] at h
  obtain ⟨rfl, rfl, rfl, rfl, rfl, rfl, rfl, rfl, rfl, rfl⟩ := h
  rfl
theorem heldV_ne {pa po : Addr} {x : S45} : heldV pa po x ≠ heldZ := by
  intro h
  simp [heldV, heldZ] at h
open Classical in
noncomputable def heldE (pa po : Addr) (v : Value) : Option (DataW Unit × List MemPlace) :=
  if v = heldZ then some (.nil, []) else if h : ∃ x : S45, v = heldV pa po x then some (rootD h.choose, []) else none
theorem heldE_zero (pa po : Addr) : heldE pa po heldZ = some (.nil, []) := by unfold heldE; rw [if_pos rfl]
theorem heldE_mk (pa po : Addr) (x : S45) : heldE pa po (heldV pa po x) = some (rootD x, []) := by
  unfold heldE
  rw [if_neg heldV_ne]
  have hx : ∃ y : S45, heldV pa po x = heldV pa po y := ⟨x, rfl⟩
  rw [dif_pos hx]
  rw [← heldV_inj hx.choose_spec]
theorem heldE_some {pa po : Addr} {v : Value} {y : DataW Unit × List MemPlace} (h : heldE pa po v = some y) : v = heldZ ∨ ∃ x, v = heldV pa po x := by
  unfold heldE at h
  split at h
  · exact .inl (by assumption)
  · split at h
    · exact .inr (by assumption)
    · cases h
theorem heldE_inv {pa po : Addr} {v : Value} {x : S45} {ps : List MemPlace} (h : heldE pa po v = some (rootD x, ps)) : v = heldV pa po x := by
  rcases heldE_some h with rfl | ⟨y, rfl⟩
  · rw [heldE_zero] at h
    simp [rootD] at h
  · rw [heldE_mk] at h
    simp only [Option.some.injEq, Prod.mk.injEq] at h
    rw [rootD_inj h.1]
theorem zero90 (w : World) : (zeroValue 90).run Try.prog w = .ok heldZ w := by kernel_rfl
/-- one of the two shapes -/
def heldOf (pa po : Addr) : Option S45 → Value
  | none => heldZ
  | some x => heldV pa po x

def mapH (ks : List S47) : DataW Unit := ks.foldl (fun D x => D.put (kI x.f0) (rootD x.f1)) (.map [])
def hasH (ks : List S47) (h : Int) : Bool := ks.any (fun x => x.f0 == h)
theorem mapH_snoc (ks : List S47) (x : S47) : mapH (ks ++ [x]) = (mapH ks).put (kI x.f0) (rootD x.f1) := by simp [mapH, List.foldl_append]
theorem hasH_snoc (ks : List S47) (x : S47) (h : Int) : hasH (ks ++ [x]) h = (hasH ks h || (x.f0 == h)) := by simp [hasH]
theorem isMap_mapH (ks : List S47) : IsMap (mapH ks) := by
  induction ks using snoc_ind with
  | h0 => exact isMap_empty
  | h1 l p ih => rw [mapH_snoc]; exact ih.put _ _
theorem has_mapH (ks : List S47) (k : Int) : Maps.has (mapH ks) (kI k) = hasH ks k := by
  induction ks using snoc_ind with
  | h0 => rfl
  | h1 l p ih =>
    rw [mapH_snoc, hasH_snoc]
    by_cases h : p.f0 = k
    · subst h
      rw [has_put_same (isMap_mapH l) (isKey_kI _)]; simp
    · rw [has_put_other (fun e => h (kI_inj.1 e).symm), ih]
      simp [h]
/-- strictly rising handles -/
def Rising (ks : List S47) : Prop := ks.Pairwise (fun a b => a.f0 < b.f0)
theorem rising_snoc {ks : List S47} {x : S47} : Rising (ks ++ [x]) ↔ Rising ks ∧ ∀ y ∈ ks, y.f0 < x.f0 := by
  unfold Rising
  rw [List.pairwise_append]
  simp
theorem at_mapH {ks : List S47} (hr : Rising ks) {x : S47} (hx : x ∈ ks) (d : DataW Unit) : (mapH ks).atKey (kI x.f0) d = rootD x.f1 := by
  induction ks using snoc_ind with
  | h0 => cases hx
  | h1 l p ih =>
    rw [rising_snoc] at hr
    rw [mapH_snoc]
    rcases List.mem_append.1 hx with hx | hx
    · have := hr.2 x hx
      rw [atKey_put_other (fun e => by have := kI_inj.1 e; omega)]
      exact ih hr.1 hx
    · simp only [List.mem_singleton] at hx
      subst hx
      rw [atKey_put_same (isMap_mapH l) (isKey_kI _)]
/-- what a range has collected -/
def CollI (D0 : DataW Unit) (left : Lit → Bool) (ss : List Int) : Prop := ss.Nodup ∧ ∀ x, x ∈ ss ↔ (has D0 (kI x) = true ∧ left (kI x) = false)
theorem CollI.start (D0 : DataW Unit) : CollI D0 (has D0) [] := ⟨List.nodup_nil, fun x => by cases has D0 (kI x) <;> simp⟩
theorem CollI.step {D0 : DataW Unit} {left : Lit → Bool} {ss : List Int} (h : CollI D0 left ss) {x : Int} {y : DataW Unit} (hlk : left (kI x) = true) (hat : ∀ zd, D0.atKey (kI x) zd = y) : CollI D0 (fun z => left z && !z.sameKey (kI x)) (ss ++ [x]) := by
  have hhas : has D0 (kI x) = true := has_true_of_atKey hat
  have hnew : x ∉ ss := fun hx => by have := ((h.2 x).1 hx).2; rw [hlk] at this; cases this
  refine ⟨List.nodup_append.2 ⟨h.1, by simp, fun a ha b hb => by simp at hb; subst hb; exact fun e => hnew (e ▸ ha)⟩, fun y => ?_⟩
  by_cases hy : y = x
  · subst hy; simp [hhas, Lit.sameKey]
  · simp [h.2 y, hy, Lit.sameKey]
theorem handles_nodup {ks : List S47} (hr : Rising ks) : (ks.map (fun x => x.f0)).Nodup := by
  refine List.pairwise_map.2 (hr.imp ?_)
  intro a b h
  omega
theorem CollI.perm {ks : List S47} (hr : Rising ks) {left : Lit → Bool} {ss : List Int} (h : CollI (mapH ks) left ss) (hl : ∀ kl, left kl = false) : ss.Perm (ks.map (fun x => x.f0)) := by
  refine (List.perm_ext_iff_of_nodup h.1 (handles_nodup hr)).2 fun x => ?_
  rw [h.2 x, hl, has_mapH]
  simp [hasH]
end Go.Proofs.Ytccblcnjeekhbaa
/- store.Restore, walked. -/
namespace Go.Proofs.Ytccblcnjeekhbaa
open Go.RowKit Go.Maps Go.Proofs.Ytccblcnjeekhbaa.PStoreHolds Go.Proofs.YtccblcnjeekhbaaW.PrintWords Go.Proofs.YtccblcnjeekhbaaW.PrintLast Go.Proofs.YtccblcnjeekhbaaW.PrintMore
set_option linter.unusedVariables false
set_option linter.unusedSimpArgs false

/-- a store that holds these maps -/
structure StM (mu : Int) (n ps mb : Nat) (pa po : Addr) (nx : Int) (v : Value) (xs : List S41) (ks : List S47) (w : World) : Prop where
  hp : w.heap[ps]? = some (.cells #[.int .i32 mu, .int .u32 0, .int .i64 nx, .map (some mb), .pointer (some pa), .pointer (some po), v] 87 (0, 0))
  row : Kd.R k41 41 w n (fun _ => True) v xs
  own : w.ownsMap (H := Unit) Try.prog 3 (heldE pa po) mb ks.length (mapH ks)
  hps : n ≤ ps
  hmb : n ≤ mb
/-- its lock is free -/
abbrev StH := StM 0
theorem StM.ne {mu : Int} {n ps mb : Nat} {pa po : Addr} {nx : Int} {v : Value} {xs : List S41} {ks : List S47} {w : World} (h : StM mu n ps mb pa po nx v xs ks w) : ps ≠ mb := by
  obtain ⟨es, c, hm, _⟩ := h.own
  exact (ne_heap hm h.hp ne_map).symm
/-- what turns is maps, and not these blocks -/
theorem StM.turn {mu : Int} {n ps mb : Nat} {pa po : Addr} {nx : Int} {v : Value} {xs : List S41} {ks : List S47} {w w' : World} (h : StM mu n ps mb pa po nx v xs ks w) {F : Nat → Prop} (T : Turn F w w') (hm : ¬ F mb) (hF : ∀ k, F k → k < w.heap.size → ∃ es c, w.heap[k]? = some (.map es c)) : StM mu n ps mb pa po nx v xs ks w' := by
  have hno : ∀ k cs t, w.heap[k]? = some (.cells cs t (0, 0)) → ¬ F k := by
    intro k cs t hc hf
    obtain ⟨es, c, hm⟩ := hF k hf (Array.getElem?_eq_some_iff.1 hc).1
    rw [hm] at hc
    cases hc
  refine ⟨T.heap h.hp (hno _ _ _ h.hp), ?_, T.map h.own hm, h.hps, h.hmb⟩
  refine Kd.R_mono (Kd.R_step (Kd.R_bound h.row) (fun k hk hlt => T.block k hlt ?_)) (fun _ _ => trivial)
  obtain ⟨_, _, _, q, _, cells, hc⟩ := hk
  exact hno _ _ _ hc
theorem StM.put {mu : Int} {n ps mb : Nat} {pa po : Addr} {nx : Int} {v : Value} {xs : List S41} {ks : List S47} {w w' : World} (h : StM mu n ps mb pa po nx v xs ks w) {x : S47} (ho : w'.ownsMap (H := Unit) Try.prog 3 (heldE pa po) mb (ks.length + 1) ((mapH ks).put (kI x.f0) (rootD x.f1))) (hg : w.grownBy w' (some mb)) : StM mu n ps mb pa po nx v xs (ks ++ [x]) w' := by
  have T : Turn (fun k => k = mb) w w' := Turn.of_grown hg (fun k hk => .inl (Option.some.inj hk).symm)
  obtain ⟨es, c, hm, _⟩ := h.own
  have hno : ∀ k cs t, w.heap[k]? = some (.cells cs t (0, 0)) → ¬ k = mb := by
    rintro k cs t hc rfl
    rw [hm] at hc
    cases hc
  refine ⟨T.heap h.hp (hno _ _ _ h.hp), ?_, ?_, h.hps, h.hmb⟩
  · refine Kd.R_mono (Kd.R_step (Kd.R_bound h.row) (fun k hk hlt => T.block k hlt ?_)) (fun _ _ => trivial)
    obtain ⟨_, _, _, q, _, cells, hc⟩ := hk
    exact hno _ _ _ hc
  · rw [mapH_snoc, List.length_append]
    exact ho
theorem StM.quiet {mu : Int} {n ps mb : Nat} {pa po : Addr} {nx : Int} {v : Value} {xs : List S41} {ks : List S47} {w w' : World} (h : StM mu n ps mb pa po nx v xs ks w) (T : Turn (fun _ => False) w w') : StM mu n ps mb pa po nx v xs ks w' := h.turn T (fun h => h) (fun _ h => h.elim)
theorem mb_map {mu : Int} {n ps mb : Nat} {pa po : Addr} {nx : Int} {v : Value} {xs : List S41} {ks : List S47} {w : World} (h : StM mu n ps mb pa po nx v xs ks w) : ∃ es c, w.heap[mb]? = some (.map es c) := map_block h.own

def offsI (ks : List S47) : List (Int × Int) := ks.map (fun x => (x.f1.f0, 1))
theorem offsI_snoc (ks : List S47) (x : S47) : offsI (ks ++ [x]) = offsI ks ++ [(x.f1.f0, 1)] := by simp [offsI]
theorem look_offsI (ks : List S47) (o : Int) : lookI (offsI ks) o = if o ∈ ks.map (fun x => x.f1.f0) then 1 else 0 := by
  induction ks using snoc_ind with
  | h0 => rfl
  | h1 l p ih =>
    rw [offsI_snoc, lookI_snoc, ih, List.map_append]
    simp only [List.mem_append, List.map_cons, List.map_nil, List.mem_singleton]
    by_cases h : p.f1.f0 = o
    · rw [if_pos h, if_pos (.inr h.symm)]
    · rw [if_neg h]
      by_cases h2 : o ∈ List.map (fun x => x.f1.f0) l
      · rw [if_pos h2, if_pos (.inl h2)]
      · rw [if_neg h2, if_neg (fun e => e.elim h2 (fun e => h e.symm))]
def lastH (l : List S47) : Int := match l.getLast? with | none => 0 | some x => x.f0
theorem lastH_snoc (l : List S47) (x : S47) : lastH (l ++ [x]) = x.f0 := by simp [lastH]
theorem hGo_stop {nx : Int} {cls : List Int} {ks : List S47} {j : Nat} {x : S47} {r : List S47} (E : hGo nx cls 0 [] ks = hGo nx cls (lastH (ks.take j)) ((ks.take j).map (fun x => x.f1.f0)) (x :: r)) (h : hBad nx cls (lastH (ks.take j)) ((ks.take j).map (fun x => x.f1.f0)) x) : hGo nx cls 0 [] ks = 144 := by
  rw [E]
  show (if hBad _ _ _ _ x then _ else _) = _
  rw [if_pos h]
theorem hGo_on {nx : Int} {cls : List Int} {ks : List S47} {j : Nat} {x : S47} {r : List S47} (E : hGo nx cls 0 [] ks = hGo nx cls (lastH (ks.take j)) ((ks.take j).map (fun x => x.f1.f0)) (x :: r)) (h : ¬ hBad nx cls (lastH (ks.take j)) ((ks.take j).map (fun x => x.f1.f0)) x) (ht : ks.take (j + 1) = ks.take j ++ [x]) :
    hGo nx cls 0 [] ks = hGo nx cls (lastH (ks.take (j + 1))) ((ks.take (j + 1)).map (fun x => x.f1.f0)) r := by
  rw [E, ht, lastH_snoc, List.map_append]
  show (if hBad _ _ _ _ x then _ else _) = _
  rw [if_neg h]
  rfl
def RestPost (n : Nat) (pa : Addr) (xs : List S41) (nx : Int) (ks : List S47) (cls : List Int) (w : World) (e : Ending) (w' : World) : Prop :=
  (hCode xs nx ks cls = 0 ∧ (∃ ps mb po v, e = .returned (.tuple #[.pointer (some ⟨ps, 0, none⟩), .int .i64 0]) ∧ StH n ps mb pa po nx v xs ks w') ∨ hCode xs nx ks cls ≠ 0 ∧ e = .returned (.tuple #[.pointer none, .int .i64 (hCode xs nx ks cls)])) ∧ Below n w w'
end Go.Proofs.Ytccblcnjeekhbaa
/- store.Restore, walked. -/
namespace Go.Proofs.Ytccblcnjeekhbaa
open Go.RowKit Go.Maps Go.Proofs.Ytccblcnjeekhbaa.PStoreHolds Go.Proofs.YtccblcnjeekhbaaW.PrintWords Go.Proofs.YtccblcnjeekhbaaW.PrintLast Go.Proofs.YtccblcnjeekhbaaW.PrintMore
set_option linter.unusedVariables false
set_option linter.unusedSimpArgs false

theorem off_look {w : World} {ob n : Nat} {ks : List S47} (h : w.ownsMap (H := Unit) Try.prog 3 (plainElem Try.prog 3) ob n (mapI (offsI ks))) (o : Int) (ho : (Lit.int .i64 o).wf = true) :
    (Instr.lookup 59 (.map (some ob)) (.int .i64 o) false).run Try.prog w = .ok (.int .i64 (if o ∈ ks.map (fun x => x.f1.f0) then 1 else 0)) w := by
  obtain ⟨c, hrun, hat, _⟩ := h.lookup_int key3 Try.underlying59 Try.underlying3 (zero3 _) (keyOf_int_mk Try.underlying3 ho)
  rw [at_mapI, look_offsI] at hat
  have hc : c = if o ∈ ks.map (fun x => x.f1.f0) then 1 else 0 := by
    simp only [DataW.lit.injEq, Lit.int.injEq, true_and] at hat
    exact hat.symm
  rw [hc] at hrun
  exact hrun

theorem hGo_stop1 {nx : Int} {cls : List Int} {K last : Int} {seen : List Int} {x : S47} {r : List S47} (E : K = hGo nx cls last seen (x :: r)) (h : hBad nx cls last seen x) : K = 144 := by
  rw [E]
  show (if hBad _ _ _ _ x then _ else _) = _
  rw [if_pos h]
theorem hGo_on1 {nx : Int} {cls : List Int} {K last : Int} {seen : List Int} {x : S47} {r : List S47} (E : K = hGo nx cls last seen (x :: r)) (h : ¬ hBad nx cls last seen x) : K = hGo nx cls x.f0 (seen ++ [x.f1.f0]) r := by
  rw [E]
  show (if hBad _ _ _ _ x then _ else _) = _
  rw [if_neg h]
theorem at_call2 (pa po : Addr) (f0 f1 f2 f3 f4 f5 f6 f7 f8 off : Int) (w : World) :
    Calls Try.prog 20 #[.pointer (some pa), .agg #[.int .i64 f0, .int .i64 f1, .int .i64 f2, .int .i64 f3, .int .i64 f4, .int .i64 f5, .int .i64 f6, .int .i64 f7, .int .i64 f8], .pointer (some po), .int .i64 off] w fun e w' => e = .returned (.agg #[.pointer (some pa), .int .i64 f0, .int .i64 f1, .int .i64 f2, .int .i64 f3, .int .i64 f4, .int .i64 f5, .int .i64 f6, .int .i64 f7, .int .i64 f8, .pointer (some po), .int .i64 off]) ∧ Below w.heap.size w w' :=
  at_call pa po f0 f1 f2 f3 f4 f5 f6 f7 f8 off w
theorem map_putter {P : Program} {H : Type} {k e t : TypeId} {R : Value → Option (DataW H × List MemPlace)} {b n : Nat} {D : DataW H} {Cond : World → Prop} (h : ∀ x, Cond x → x.ownsMap P k R b n D) (K : Keyed P k) (ht : P.underlying t = some (.map k e)) (hn : n < maxLen) {key val : Value} {kl : Lit} {d : DataW H} {ps : List MemPlace}
    (hkey : keyOf P k key = some kl) (hv : R val = some (d, ps)) : ∃ f : World → World, (∀ x, Cond x → (Instr.mapUpdate t (.map (some b)) key val).run P x = .ok () (f x)) ∧ ∀ x, Cond x → (f x).ownsMap P k R b (n + 1) (D.put kl d) ∧ x.grownBy (f x) (some b) := by
  have hex : ∀ x, ∃ y, Cond x → (Instr.mapUpdate t (.map (some b)) key val).run P x = .ok () y ∧ y.ownsMap P k R b (n + 1) (D.put kl d) ∧ x.grownBy y (some b) := by
    intro x
    by_cases hx : Cond x
    · obtain ⟨y, h1, h2, h3⟩ := (h x hx).update K ht hn hkey hv
      exact ⟨y, fun _ => ⟨h1, h2, h3⟩⟩
    · exact ⟨x, fun hc => absurd hc hx⟩
  obtain ⟨f, hf⟩ := Classical.axiomOfChoice hex
  exact ⟨f, fun x hx => (hf x hx).1, fun x hx => (hf x hx).2⟩
/-- new blocks and draws alone -/
def Away (w x : World) : Prop := Below w.drew.heap.size w.drew x
theorem away_iff {w x : World} : Away w x ↔ Below w.drew.heap.size w.drew x := Iff.rfl
theorem ob_ne {w : World} {k : TypeId} {R : Value → Option (DataW Unit × List MemPlace)} {b n : Nat} {D : DataW Unit} (h : w.ownsMap Try.prog k R b n D) {c : Nat} {cs : Array Value} {t : TypeId} {f : Nat × Nat} (hc : w.heap[c]? = some (.cells cs t f)) : c ≠ b := by
  obtain ⟨es, d, hm⟩ := map_block h
  exact (ne_heap hm hc ne_map).symm
set_option maxRecDepth 100000 in
set_option maxHeartbeats 16000000 in
theorem restore_call (pa : Nat) (cls : List Int) (F : Nat → Prop) (A1 A3 : Option Addr) (c1 c3 : Nat) (xs : List S41) (nx : Int) (ks : List S47) (w : World)
    (h1 : Kd.C k41 w A1 xs.length xs) (hc1 : xs.length ≤ c1) (hn1 : xs.length < 5864062014805) (hw1 : ∀ x ∈ xs, (Lit.int .u64 x.f1).wf = true) (h3 : Kd.C k47 w A3 ks.length ks) (hc3 : ks.length ≤ c3) (hn3 : ks.length < 1599289640401)
    (hwf : ∀ x ∈ ks, (Lit.int .i64 x.f0).wf = true ∧ (-9223372036854775808 ≤ x.f1.f0 ∧ x.f1.f0 ≤ 9223372036854775807)) {n0 : Nat} (hA : ArZ w n0 pa cls F) :
    Calls Try.prog 9 #[.agg #[.slice A1 xs.length c1, .int .i64 nx, .slice A3 ks.length c3], .pointer (some ⟨pa, 0, none⟩)] w (RestPost w.heap.size ⟨pa, 0, none⟩ xs nx ks cls w) := by
  have b1 : Hid (∀ o, Calls Try.prog 17 #[.pointer (some ⟨pa, 0, none⟩), .int .i64 nx, .slice A1 xs.length c1] (w.alloc o) (BeginPost ⟨pa, 0, none⟩ nx xs (w.alloc o))) := Lib.hid (fun o => begin_call ⟨pa, 0, none⟩ nx A1 c1 xs (w.alloc o) (Kd.C_alloc h1 o) hc1 hn1 hw1)
  have H3 := Lib.hid h3
  have HA := Lib.hid hA
  have HW := Lib.hid hwf
  have hmm := @run_makeMap Try.prog
  clear h1 h3 hA hwf hw1
  go_enter Try.func9, Try.ntmps9
  go_wp2_with fail
  refine (b1.out _).mono ?_
  rintro e w1 ⟨P, B1⟩
  have B0 : Hid (Below w.heap.size w w1) := Lib.hid ((Below.alloc (Below.refl w.heap.size w) (Nat.le_refl _) (.cells #[.slice A1 xs.length c1, .int .i64 nx, .slice A3 ks.length c3] 26)).trans (B1.mono (by rw [size_a]; exact Nat.le_succ _)))
  have hbx : Hid (w1.heap[w.heap.size]? = some (.cells #[.slice A1 xs.length c1, .int .i64 nx, .slice A3 ks.length c3] 26 (0, 0))) := Lib.hid ((B1.block _ (by rw [size_a]; exact Nat.lt_succ_self _)).trans (alloc_new w _))
  have k0 := cell_of (i := 0) (v := .slice A1 xs.length c1) hbx.out rfl
  have k1 := cell_of (i := 1) (v := .int .i64 nx) hbx.out rfl
  have k2 := cell_of (i := 2) (v := .slice A3 ks.length c3) hbx.out rfl
  clear B1 b1
  rcases P with ⟨ok, ps, mb, v, rfl, S0, m0⟩ | ⟨no, rfl⟩
  · by_cases hb : nx < 1 ∨ 4611686018427387904 < nx
    · have hco : hCode xs nx ks cls = 144 := by unfold hCode; rw [if_neg (by simpa using ok), if_pos hb]
      clear S0 m0
      rcases hb with hb | hb
      all_goals
        go_wp2_with fail
        go_ret2
        exact ⟨.inr ⟨by rw [hco]; decide, by rw [hco]; rfl⟩, B0.out⟩
    · have hco := Lib.hid (show hCode xs nx ks cls = hGo nx cls 0 [] ks by unfold hCode; rw [if_neg (by simpa using ok), if_neg hb])
      have hb1 : ¬ nx < 1 := fun e => hb (.inl e)
      have hb2 : ¬ 4611686018427387904 < nx := fun e => hb (.inr e)
      obtain ⟨po, hp⟩ := S0.hp
      have S1 : Hid (StH w.heap.size ps mb ⟨pa, 0, none⟩ po nx v xs [] w1) := Lib.hid ⟨hp, Kd.R_lower S0.row (by rw [size_a]; exact Nat.le_succ _), ⟨#[], 0, m0, ⟨by simp, MapKept.stamped_empty 0, by simp⟩, Nat.le_refl _, rfl⟩, Nat.le_trans (by rw [size_a]; exact Nat.le_succ _) S0.hps, Nat.le_trans (by rw [size_a]; exact Nat.le_succ _) S0.hmb⟩
      clear hb S0 m0 hp
      have k3 := cell_of (i := 2) (v := .slice A3 ks.length c3) (alloc_old hbx.out (.map #[] 0)) rfl
      go_wp2_with fail
      have om := World.ownsMap_made (H := Unit) w1 Try.prog 3 (plainElem Try.prog 3)
      have Tm : Turn (fun _ => False) w1 (w1.alloc (.map #[] 0)) := (Turn.refl _ w1).alloc _
      have S2 := Lib.hid (S1.out.quiet Tm)
      have B2 := Lib.hid (Below.alloc B0.out B0.out.size (.map #[] 0))
      have hbx2 := Lib.hid (alloc_old hbx.out (.map #[] 0))
      have hne := Lib.hid (show mb ≠ w1.heap.size from by
        obtain ⟨es, c, hm⟩ := mb_map S1.out
        have := (Array.getElem?_eq_some_iff.1 hm).1
        omega)
      have hob := Lib.hid (show w.heap.size ≤ w1.heap.size from B0.out.size)
      generalize w1.heap.size = ob at *
      have OM := Lib.hid om
      clear k0 k1 k2 k3 om Tm S1 B0 hbx hmm
      generalize w1.alloc (.map #[] 0) = w2 at *
      have hks0 : (0 : Int) ≤ (ks.length : Int) := by omega
      go_loopg [9, 38] (ks.length + 1) (fun kq v9 v38 w' => ∃ j : Nat, v38 = .int .i64 j ∧ v9 = .int .i64 (lastH (ks.take j)) ∧ Hid ((j + kq = ks.length + 1 ∧ j ≤ ks.length) ∧ Below w.heap.size w w' ∧ w'.heap[w.heap.size]? = some (.cells #[.slice A1 xs.length c1, .int .i64 nx, .slice A3 ks.length c3] 26 (0, 0)) ∧ StH w.heap.size ps mb ⟨pa, 0, none⟩ po nx v xs (ks.take j) w' ∧ w'.ownsMap (H := Unit) Try.prog 3 (plainElem Try.prog 3) ob j (mapI (offsI (ks.take j))) ∧ hGo nx cls 0 [] ks = hGo nx cls (lastH (ks.take j)) ((ks.take j).map (fun x => x.f1.f0)) (ks.drop j)))
      case atStart => exact ⟨0, rfl, rfl, Lib.hid ⟨⟨by omega, by omega⟩, B2.out, hbx2.out, S2.out, OM.out, rfl⟩⟩
      case round =>
        clear B2 hbx2 S2 OM
        obtain ⟨j, rfl, rfl, HI⟩ := hrel
        obtain ⟨⟨hk, hjl⟩, BB, hbx, SH, OM, E⟩ := HI.out
        clear HI
        have k0 := cell_of (i := 0) (v := .slice A1 xs.length c1) hbx rfl
        have k1 := cell_of (i := 1) (v := .int .i64 nx) hbx rfl
        have k2 := cell_of (i := 2) (v := .slice A3 ks.length c3) hbx rfl
        by_cases hj : j < ks.length
        · obtain ⟨ad, hA1, q0, q1, q2, q3, q4, q5, q6, q7, q8, q9, q10⟩ := at_T47 (Kd.C_below H3.out BB) (j : Int) (by omega) (by omega)
          have hrd : rd_T47 ks (j : Int) = ks[j] := by simp [rd_T47, hj]
          rw [hrd] at q0 q1 q2 q3 q4 q5 q6 q7 q8 q9 q10
          subst hA1
          simp only [Int.toNat_natCast] at q0 q1 q2 q3 q4 q5 q6 q7 q8 q9 q10
          have hdrop : ks.drop j = ks[j] :: ks.drop (j + 1) := (List.drop_eq_getElem_cons hj)
          have T1 := Lib.hid (show ks.take (j + 1) = ks.take j ++ [ks[j]] from List.take_succ_eq_append_getElem hj)
          rw [hdrop] at E
          have E1 := Lib.hid E
          have hwo := Lib.hid (HW.out ks[j] (List.getElem_mem hj))
          have hjx : (j : Int) < (ks.length : Int) := by omega
          have hj0 : (0 : Int) ≤ (j : Int) := by omega
          have SHH := Lib.hid SH
          have OMH := Lib.hid OM
          clear E hdrop hrd SH OM
          generalize hx : ks[j] = x at *
          obtain ⟨y, o, f0, f1, f2, f3, f4, f5, f6, f7, f8⟩ := x
          simp only at q0 q1 q2 q3 q4 q5 q6 q7 q8 q9 q10
          have hsz := Lib.hid (fun (w9 : World) (T : Turn (fun _ => False) wr w9) => show Calls Try.prog 18 #[.pointer (some ⟨pa, 0, none⟩), .int .i64 o] w9 fun e w' => e = .returned (.tuple #[.int .i64 (sizeOf' cls o).1, .int .i64 (sizeOf' cls o).2]) ∧ w9 = w' from
            asize_call (ArZ_kept HA.out ((Turn.of_below BB (Nat.le_refl _)).then T (fun _ h => h.elim)) (fun _ _ h => h)) o hwo.out.2.1 hwo.out.2.2)
          have hva := Lib.hid (fun (w9 : World) => valid_call w9 f0 f1 f2 f3 f4 f5 f6 f7 f8)
          unfold layO at hva
          generalize hlast : lastH (ks.take j) = last at *
          go_wp2_with fail
          refine (hsz.out _ (by repeat (first | exact Turn.refl _ _ | apply Turn.drewN | apply Turn.drew | apply Turn.alloc))).mono ?_
          rintro e w' ⟨rfl, rfl⟩
          have B8 := Lib.hid (Below.alloc BB BB.size (.cells #[.int .i64 y, .int .i64 o, .int .i64 f0, .int .i64 f1, .int .i64 f2, .int .i64 f3, .int .i64 f4, .int .i64 f5, .int .i64 f6, .int .i64 f7, .int .i64 f8] 47))
          have e1 := cell_of (i := 1) (v := .int .i64 nx) (alloc_old hbx (.cells #[.int .i64 y, .int .i64 o, .int .i64 f0, .int .i64 f1, .int .i64 f2, .int .i64 f3, .int .i64 f4, .int .i64 f5, .int .i64 f6, .int .i64 f7, .int .i64 f8] 47)) rfl
          by_cases z1 : y ≤ last
          · have hst := hGo_stop1 E1.out (.inl z1)
            have hz : hCode xs nx ks cls = 144 := hco.out.trans hst
            go_wp2_with fail
            go_ret2
            exact ⟨.inr ⟨by rw [hz]; decide, by rw [hz]; rfl⟩, B8.out⟩
          · by_cases z2 : nx ≤ y
            · have hst := hGo_stop1 E1.out (.inr (.inl (by simp [mapOk]; omega)))
              have hz : hCode xs nx ks cls = 144 := hco.out.trans hst
              go_wp2_with fail
              go_ret2
              exact ⟨.inr ⟨by rw [hz]; decide, by rw [hz]; rfl⟩, B8.out⟩
            · have z1' : last < y := by omega
              have z2' : y < nx := by omega
              go_wp2_with fail
              refine (hva.out _).mono ?_
              rintro e w9 ⟨rfl, T9⟩
              have T19 : Turn (fun _ => False) wr w9 := ((Turn.refl _ wr).alloc (.cells #[.int .i64 y, .int .i64 o, .int .i64 f0, .int .i64 f1, .int .i64 f2, .int .i64 f3, .int .i64 f4, .int .i64 f5, .int .i64 f6, .int .i64 f7, .int .i64 f8] 47)).then T9 (fun _ h => h.elim)
              have hL := T9.heap (alloc_new wr (.cells #[.int .i64 y, .int .i64 o, .int .i64 f0, .int .i64 f1, .int .i64 f2, .int .i64 f3, .int .i64 f4, .int .i64 f5, .int .i64 f6, .int .i64 f7, .int .i64 f8] 47)) (fun h => h)
              have hb9 := T19.heap hbx (fun h => h)
              have B9 := Lib.hid (B8.out.trans (T9.below (n := w.heap.size) (fun _ h => h.elim) (by rw [size_a]; exact Nat.le_trans BB.size (Nat.le_succ _))))
              have S9 := Lib.hid (SHH.out.quiet T19)
              have O9 := Lib.hid (T19.map OMH.out (fun h => h))
              have m0 := cell_of (i := 0) (v := .int .i64 y) hL rfl
              have m1 := cell_of (i := 1) (v := .int .i64 o) hL rfl
              have g1 := cell_of (i := 1) (v := .int .i64 nx) hb9 rfl
              have g2 := cell_of (i := 2) (v := .slice (some ad) ks.length c3) hb9 rfl
              have hL9 := Lib.hid hL
              have hb99 := Lib.hid hb9
              have wfo : Hid ((Lit.int .i64 o).wf = true) := Lib.hid (WalkArith.wf_i64 hwo.out.2)
              have lk := off_look O9.out o wfo.out
              clear e1 k0 k1 k2 q0 q1 q2 q3 q4 q5 q6 q7 q8 q9 q10 hL hb9 hsz hva T9 T19 BB hbx B8 SHH OMH
              cases z3 : valB f0 f1 f2 f3 f4 f5 f6 f7 f8 with
              | false =>
                have hst := hGo_stop1 E1.out (.inr (.inl (by simp [mapOk, val43, z3])))
                have hz : hCode xs nx ks cls = 144 := hco.out.trans hst
                clear lk
                go_wp2_with fail
                go_ret2
                exact ⟨.inr ⟨by rw [hz]; decide, by rw [hz]; rfl⟩, B9.out⟩
              | true =>
                by_cases z4 : (sizeOf' cls o).2 = 0
                · by_cases z5 : (sizeOf' cls o).1 = 64
                  · by_cases z6 : o ∈ (ks.take j).map (fun x => x.f1.f0)
                    · rw [if_pos z6] at lk
                      have hst := hGo_stop1 E1.out (.inr (.inr z6))
                      have hz : hCode xs nx ks cls = 144 := hco.out.trans hst
                      go_wp2_with fail
                      go_ret2
                      exact ⟨.inr ⟨by rw [hz]; decide, by rw [hz]; rfl⟩, B9.out⟩
                    · rw [if_neg z6] at lk
                      have hon := Lib.hid (hGo_on1 E1.out (by
                        unfold hBad
                        rintro (a | a | a)
                        · exact absurd (show y ≤ last from a) (by omega)
                        · simp only [mapOk, val43, szOk, z3, z4, z5, Bool.true_and, Bool.and_true, decide_true, decide_eq_false_iff_not] at a
                          exact a (by omega)
                        · exact z6 a))
                      go_wp2_with (at_mapUpdate; refine wpList_mapUpdate_own _ rfl _ _ _ 59 rfl 3 3 key3 Try.underlying59 _ ob j _ rfl O9.out (by unfold maxLen; omega) _ _ _ rfl rfl (keyOf_int_mk Try.underlying3 wfo.out) _ [] (plainElem_int Try.underlying3 (by decide)) ?_; intro w10 hown10 hg10)
                      have T10 : Turn (fun k => k = ob) w9 w10 := Turn.of_grown hg10 (fun k hk => .inl (Option.some.inj hk).symm)
                      have hL10 := Lib.hid (T10.heap hL9.out (ob_ne O9.out hL9.out))
                      have hb10 := Lib.hid (T10.heap hb99.out (ob_ne O9.out hb99.out))
                      have S10 := Lib.hid (S9.out.turn T10 hne.out (fun k hk _ => by subst hk; exact map_block O9.out))
                      have B10 := Lib.hid (below_turn B9.out hg10 hob.out (Nat.le_refl _))
                      have O10 := Lib.hid hown10
                      clear m0 m1 g1 g2 lk hown10 hg10 T10 S9 B9 O9 hL9 hb99
                      have HC : ∀ x, Turn (fun k => k = mb) w10 x → x.cell? ⟨ps, 3, none⟩ = some (.map (some mb)) ∧ x.cell? ⟨ps, 5, none⟩ = some (.pointer (some po)) ∧ x.cell? ⟨wr.heap.size, 0, none⟩ = some (.int .i64 y) ∧ x.cell? ⟨wr.heap.size, 1, none⟩ = some (.int .i64 o) ∧ x.cell? ⟨wr.heap.size, 2, none⟩ = some (.int .i64 f0) ∧ x.cell? ⟨wr.heap.size, 3, none⟩ = some (.int .i64 f1) ∧ x.cell? ⟨wr.heap.size, 4, none⟩ = some (.int .i64 f2) ∧ x.cell? ⟨wr.heap.size, 5, none⟩ = some (.int .i64 f3) ∧ x.cell? ⟨wr.heap.size, 6, none⟩ = some (.int .i64 f4) ∧ x.cell? ⟨wr.heap.size, 7, none⟩ = some (.int .i64 f5) ∧ x.cell? ⟨wr.heap.size, 8, none⟩ = some (.int .i64 f6) ∧ x.cell? ⟨wr.heap.size, 9, none⟩ = some (.int .i64 f7) ∧ x.cell? ⟨wr.heap.size, 10, none⟩ = some (.int .i64 f8) := fun x T => by
                        have h1 := T.heap S10.out.hp S10.out.ne
                        have h2 := T.heap hL10.out (ob_ne S10.out.own hL10.out)
                        exact ⟨cell_of h1 rfl, cell_of h1 rfl, cell_of h2 rfl, cell_of h2 rfl, cell_of h2 rfl, cell_of h2 rfl, cell_of h2 rfl, cell_of h2 rfl, cell_of h2 rfl, cell_of h2 rfl, cell_of h2 rfl, cell_of h2 rfl, cell_of h2 rfl⟩
                      have TB : ∀ x, Below w10.drew.heap.size w10.drew x → Turn (fun _ => False) w10 x := fun x B => ((Turn.refl (fun _ => False) w10).drew).then (Turn.of_below (F := fun _ => False) B (Nat.le_refl _)) (fun _ h => h.elim)
                      have hCd := fun x => @away_iff w10 x
                      obtain ⟨putW, hmu, hput⟩ := map_putter (Cond := Away w10) (fun x hx => (S10.out.quiet (TB x ((hCd x).1 hx))).own) key3 Try.underlying83 (by unfold maxLen; simp; omega) (keyOf_int_mk Try.underlying3 hwo.out.1) (heldE_mk ⟨pa, 0, none⟩ po ⟨o, ⟨f0, f1, f2, f3, f4, f5, f6, f7, f8⟩⟩)
                      have HC0 := HC _ ((TB _ (Below.refl _ _)).mono (fun _ _ h => h.elim))
                      have HC1 := Lib.hid (fun x hx => HC x ((TB x hx).mono (fun _ _ h => h.elim)))
                      have HC2 := Lib.hid (fun x hx => HC (putW x) (((TB x hx).mono (G := fun k => k = mb) (fun _ _ h => h.elim)).then (Turn.of_grown (hput x ((hCd x).2 hx)).2 (fun k hk => .inl (Option.some.inj hk).symm)) (fun _ h => .inl h)))
                      have HTB := Lib.hid TB
                      have HPUT := Lib.hid (fun x hx => hput x ((hCd x).2 hx))
                      have HCD := Lib.hid hCd
                      clear HC TB hput hCd
                      dsimp only [heldV] at hmu
                      go_frame
                      have p0 := HC0
                      obtain ⟨p3, p5, m0, m1, m2, m3, m4, m5, m6, m7, m8, m9, m10⟩ := p0
                      go_region_held3 (fun x => x.cell? ⟨ps, 3, none⟩ = some (.map (some mb)) ∧ x.cell? ⟨ps, 5, none⟩ = some (.pointer (some po)) ∧ x.cell? ⟨wr.heap.size, 0, none⟩ = some (.int .i64 y) ∧ x.cell? ⟨wr.heap.size, 1, none⟩ = some (.int .i64 o) ∧ x.cell? ⟨wr.heap.size, 2, none⟩ = some (.int .i64 f0) ∧ x.cell? ⟨wr.heap.size, 3, none⟩ = some (.int .i64 f1) ∧ x.cell? ⟨wr.heap.size, 4, none⟩ = some (.int .i64 f2) ∧ x.cell? ⟨wr.heap.size, 5, none⟩ = some (.int .i64 f3) ∧ x.cell? ⟨wr.heap.size, 6, none⟩ = some (.int .i64 f4) ∧ x.cell? ⟨wr.heap.size, 7, none⟩ = some (.int .i64 f5) ∧ x.cell? ⟨wr.heap.size, 8, none⟩ = some (.int .i64 f6) ∧ x.cell? ⟨wr.heap.size, 9, none⟩ = some (.int .i64 f7) ∧ x.cell? ⟨wr.heap.size, 10, none⟩ = some (.int .i64 f8))
                        ((first | exact HC0 | exact HC1.out _ ha | exact HC2.out _ ha))
                        ((go_at_call 20; refine (at_call2 ⟨pa, 0, none⟩ po f0 f1 f2 f3 f4 f5 f6 f7 f8 o _).mono ?_; rintro e wa ⟨rfl, ha⟩; have hcd := (HCD.out wa).2 ha))
                      have T11 := HTB.out _ ha
                      have S11 := Lib.hid (S10.out.quiet T11)
                      have O11 := Lib.hid (T11.map O10.out (fun h => h))
                      have hb11 := Lib.hid (T11.heap hb10.out (fun h => h))
                      have B12 := Lib.hid (B10.out.trans (T11.below (n := w.heap.size) (fun _ h => h.elim) B10.out.size))
                      obtain ⟨hown12, hg12⟩ := HPUT.out _ ha
                      clear p3 p5 m0 m1 m2 m3 m4 m5 m6 m7 m8 m9 m10 T11 S10 O10 hb10 B10 hL10 HC0 HC1 HC2 HTB HPUT hmu
                      generalize putW wa = w12 at *
                      have S12 := S11.out.put (x := ⟨y, ⟨o, ⟨f0, f1, f2, f3, f4, f5, f6, f7, f8⟩⟩⟩) hown12 hg12
                      rw [← T1.out] at S12
                      have T12 : Turn (fun k => k = mb) wa w12 := Turn.of_grown hg12 (fun k hk => .inl (Option.some.inj hk).symm)
                      have O12 := T12.map O11.out (fun h => hne.out h.symm)
                      rw [show (mapI (offsI (List.take j ks))).put (Lit.int IntKind.i64 o) (DataW.lit (Lit.int IntKind.i64 1)) = mapI (offsI (ks.take (j + 1))) from by rw [T1.out, offsI_snoc, mapI_snoc]] at O12
                      have hb12 := T12.heap hb11.out (ob_ne S11.out.own hb11.out)
                      have B13 := below_turn B12.out hg12 S11.out.hmb (Nat.le_refl _)
                      have hon2 : hGo nx cls 0 [] ks = hGo nx cls (lastH (ks.take (j + 1))) ((ks.take (j + 1)).map (fun x => x.f1.f0)) (ks.drop (j + 1)) := by
                        rw [T1.out, lastH_snoc, List.map_append]
                        exact hon.out
                      have REL := Lib.hid (And.intro B13 (And.intro hb12 (And.intro S12 (And.intro O12 hon2))))
                      have hlast2 := Lib.hid (show lastH (ks.take (j + 1)) = y by rw [T1.out, lastH_snoc])
                      clear S12 O12 hb12 B13 hon2 hown12 hg12 T12 S11 O11 hb11 B12
                      go_wp2_with fail
                      go_roundg (gk - 1)
                      case measure => omega
                      case rel => exact ⟨j + 1, by simp, by rw [hlast2.out], Lib.hid ⟨⟨by omega, by omega⟩, REL.out⟩⟩
                  · have hst := hGo_stop1 E1.out (.inr (.inl (by simp [mapOk, szOk, z5])))
                    have hz : hCode xs nx ks cls = 144 := hco.out.trans hst
                    have z7 : ((sizeOf' cls o).1 != 64) = true := by simpa using z5
                    clear lk
                    go_wp2_with fail
                    go_ret2
                    exact ⟨.inr ⟨by rw [hz]; decide, by rw [hz]; rfl⟩, B9.out⟩
                · have hst := hGo_stop1 E1.out (.inr (.inl (by simp [mapOk, szOk, z4])))
                  have hz : hCode xs nx ks cls = 144 := hco.out.trans hst
                  have z7 : ((sizeOf' cls o).2 == 0) = false := by simpa using z4
                  clear lk
                  go_wp2_with fail
                  go_ret2
                  exact ⟨.inr ⟨by rw [hz]; decide, by rw [hz]; rfl⟩, B9.out⟩
        · have hj' : j = ks.length := by omega
          subst hj'
          rw [List.drop_length] at E
          have hz : hCode xs nx ks cls = 0 := hco.out.trans E
          rw [List.take_length] at SH
          go_wp2_with fail
          go_ret2
          exact ⟨.inl ⟨hz, _, _, _, _, rfl, SH⟩, BB⟩
  · have hco : hCode xs nx ks cls = oCode xs := by unfold hCode; rw [if_pos no]
    have hno : (oCode xs == 0) = false := by simpa using no
    go_wp2_with fail
    go_ret2
    exact ⟨.inr ⟨by rw [hco]; exact no, by rw [hco]; rfl⟩, B0.out⟩
end Go.Proofs.Ytccblcnjeekhbaa
