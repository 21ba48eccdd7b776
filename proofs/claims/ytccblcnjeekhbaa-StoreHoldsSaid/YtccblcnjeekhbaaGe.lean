/- overs, slices.Clone of overrides: walked. -/
import Derived.Test.YtccblcnjeekhbaaPStoreHoldsx4
import Derived.Test.YtccblcnjeekhbaaGa
import Derived.Lib.LazyBuf
import Derived.Test.YtccblcnjeekhbaaPStoreHoldsx0
import Derived.StillTailTactics
import Derived.BigRegion
import Derived.StringKeys
import Derived.Test.YtccblcnjeekhbaaGb
import Derived.Test.YtccblcnjeekhbaaGc
import Derived.Carry
import Derived.Test.YtccblcnjeekhbaaGd
namespace Go.Proofs.Ytccblcnjeekhbaa
open Go.RowKit Go.Proofs.Ytccblcnjeekhbaa.PStoreHolds Go.Proofs.YtccblcnjeekhbaaW.PrintWords Go.Proofs.YtccblcnjeekhbaaW.PrintLast Go.Proofs.YtccblcnjeekhbaaW.PrintMore
set_option linter.unusedVariables false
set_option linter.unusedSimpArgs false

theorem overs_call (A : Option Addr) (c : Nat) (xs : List S41) (w : World) (h : Kd.C k41 w A xs.length xs) (hc : xs.length ≤ c) (hn : xs.length < 5864062014805) :
    Calls Try.prog 8 #[.slice A xs.length c] w fun e w' => ∃ v, e = .returned v ∧ Kd.R k41 41 w' w.heap.size (fun _ => True) v xs ∧ Below w.heap.size w w' :=
  larderlaw14_overs.calls A c xs xs w h hc (by unfold larderlaw14_overs.f; rw [if_pos (by simpa using hn)]; rfl)

set_option maxRecDepth 100000 in
set_option maxHeartbeats 16000000 in
theorem clone_some (ad : Addr) (c : Nat) (xs : List S41) (w : World) (h : Kd.C k41 w (some ad) xs.length xs) (hc : xs.length ≤ c) (hn : xs.length < 5864062014805) :
    Calls Try.prog 26 #[.slice (some ad) xs.length c] w fun e w' => ∃ v, e = .returned v ∧ Kd.R k41 41 w' w.heap.size (fun _ => True) v xs ∧ Below w.heap.size w w' := by
  have EQ := Go.run_eql_slice_nil w 23 41 (some ad) xs.length c Try.underlying23
  have HR0 := Aside0.mk h
  have HC0 := Aside0.mk hc
  have LMc2 := Aside0.mk hn
  clear h hc hn
  have HB := Aside0.mk (Below.refl w.heap.size w)
  go_enter Try.func26, Try.ntmps26
  go_wp2_with (at_builtin; refine Kd.R_append_rows k41 (w0 := w) w.heap.size rfl (.tmp 5) (.tmp 6) 23 41 (.agg #[(.string ⟨#[]⟩), (.int .u64 0)]) 24 rfl Try.underlying23 info41 rfl (by decide) (by omega) (.slice (some ⟨w.heap.size, 0, none⟩) 0 0) ([] : List (S41)) xs _ _ _ (fun _ => True) (fun _ => False) rfl rfl ?aO ?aR (fun _ _ h => h) (fun _ h => h.elim) ?aF ?aB ?aS ?aL ?_; (case aR => exact (Kd.C_alloc HR0.out _ : Kd.C k41 (w.alloc (.cells #[] 41)) (some ad) xs.length xs)); (case aB => exact (by repeat (first | (with_reducible first | exact HB.out | apply below_alloc | apply pw_below_drewN | apply below_drew1) | exact HB.out))); (case aF => exact (fun _ _ => trivial)); (case aO => exact ⟨fun _ _ => trivial, OwnRow.lit (ps := ([] : List S41)) (inner := []) w w.heap.size (Reps.none _ _) (Nat.le_refl _) (by simp)⟩); (case aS => exact (below_size (by repeat (first | (with_reducible first | exact HB.out | apply below_alloc | apply pw_below_drewN | apply below_drew1) | exact HB.out)))); (case aL => have := LMc2.out; simp; omega); intro v1 w3 ho hb hg hat; have n0_ := Aside0.mk (hb); have n1_ := Aside0.mk (ho); clear HB; have HB := n0_; have HO119 := n1_; clear n0_ n1_; clear ho hb hg hat)
  go_ret
  exact ⟨_, by first | rfl | (simp [*] <;> rfl), by (with_reducible repeat (first | apply Kd.R_alloc | apply Kd.R_drewN | apply Kd.R_drew)); exact HO119.out, by repeat (first | (with_reducible first | exact HB.out | apply below_alloc | apply pw_below_drewN | apply below_drew1) | exact HB.out)⟩
set_option maxRecDepth 100000 in
theorem clone_none (c : Nat) (w : World) :
    Calls Try.prog 26 #[.slice none 0 c] w fun e w' => e = .returned (.slice none 0 0) ∧ w' = w := by
  have EQ := Go.run_eql_slice_nil w 23 41 none 0 c Try.underlying23
  go_enter Try.func26, Try.ntmps26
  go_wp2_with fail
  go_ret
  exact ⟨rfl, rfl⟩
/-- slices.Clone of overrides -/
theorem clone_call (A : Option Addr) (c : Nat) (xs : List S41) (w : World) (h : Kd.C k41 w A xs.length xs) (hc : xs.length ≤ c) (hn : xs.length < 5864062014805) :
    Calls Try.prog 26 #[.slice A xs.length c] w fun e w' => ∃ v, e = .returned v ∧ Kd.R k41 41 w' w.heap.size (fun _ => True) v xs ∧ Below w.heap.size w w' := by
  cases A with
  | some ad => exact clone_some ad c xs w h hc hn
  | none =>
    have hx : xs = [] := by
      cases xs with
      | nil => rfl
      | cons x r =>
        obtain ⟨ad, ha, _⟩ := at_T41 h 0 (by omega) (by simp)
        cases ha
    subst hx
    refine (clone_none c w).mono ?_
    rintro e w' ⟨rfl, rfl⟩
    exact ⟨_, rfl, Kd.R_nil _ _ _ _ _, Below.refl _ _⟩
end Go.Proofs.Ytccblcnjeekhbaa
/- A map from texts to numbers as the list of what was put; the overrides' refusals. No program in sight. -/
namespace Go.Proofs.Ytccblcnjeekhbaa
open Go.RowKit Go.Maps Go.Proofs.Ytccblcnjeekhbaa.PStoreHolds
set_option linter.unusedVariables false

abbrev kS (b : ByteArray) : Lit := .string b.data.toList
def mapS (xs : List S41) : DataW Unit := xs.foldl (fun D x => D.put (kS x.f0) (.lit (.int .u64 x.f1))) (.map [])
def hasS (xs : List S41) (b : ByteArray) : Bool := xs.any (fun x => decide (x.f0 = b))
theorem kS_inj {a b : ByteArray} : kS a = kS b ↔ a = b := by
  constructor
  · intro h
    cases a; cases b
    simp only [Lit.string.injEq] at h
    congr 1
    exact Array.toList_inj.1 h
  · rintro rfl; rfl
theorem mapS_snoc (xs : List S41) (x : S41) : mapS (xs ++ [x]) = (mapS xs).put (kS x.f0) (.lit (.int .u64 x.f1)) := by simp [mapS, List.foldl_append]
theorem hasS_snoc (xs : List S41) (x : S41) (b : ByteArray) : hasS (xs ++ [x]) b = (hasS xs b || decide (x.f0 = b)) := by simp [hasS]
theorem isKey_kS (b : ByteArray) : WideAt.IsKeyLit (kS b) := by simp [WideAt.IsKeyLit]
theorem isMap_mapS (xs : List S41) : IsMap (mapS xs) := by
  induction xs using snoc_ind with
  | h0 => exact isMap_empty
  | h1 l p ih => rw [mapS_snoc]; exact ih.put _ _
theorem has_mapS (xs : List S41) (b : ByteArray) : Maps.has (mapS xs) (kS b) = hasS xs b := by
  induction xs using snoc_ind with
  | h0 => rfl
  | h1 l p ih =>
    rw [mapS_snoc, hasS_snoc]
    by_cases h : p.f0 = b
    · subst h
      rw [has_put_same (isMap_mapS l) (isKey_kS _)]; simp
    · rw [has_put_other (fun e => h (kS_inj.1 e).symm), ih]
      simp [h]
/-- one override's refusal, behind those that were seen -/
def oOne (seen : List S41) (x : S41) : Int := if x.f0.size < 1 ∨ 128 < x.f0.size then 41 else if hasS seen x.f0 = true then 42 else 0
def oGo (seen : List S41) : List S41 → Int
  | [] => 0
  | x :: r => if oOne seen x = 0 then oGo (seen ++ [x]) r else oOne seen x
def oCode (xs : List S41) : Int := if 64 < xs.length then 40 else oGo [] xs
theorem loop_ne (s : ByteArray) : ∀ (n i : Nat) (acc : List UInt8), s.size - i = n → acc ≠ [] → ByteArray.toList.loop s i acc ≠ [] := by
  intro n
  induction n with
  | zero =>
    intro i acc h ha
    unfold ByteArray.toList.loop
    rw [if_neg (by omega)]
    simpa using ha
  | succ n ih =>
    intro i acc h ha
    unfold ByteArray.toList.loop
    rw [if_pos (by omega)]
    exact ih (i + 1) _ (by omega) (by simp)
theorem toList_ne {s : ByteArray} (h : s.size ≠ 0) : s.toList ≠ [] := by
  unfold ByteArray.toList
  unfold ByteArray.toList.loop
  rw [if_pos (by omega)]
  exact loop_ne s _ _ _ rfl (by simp)
theorem loop_eq (s : ByteArray) : ∀ (n i : Nat) (acc : List UInt8), s.size - i = n → ByteArray.toList.loop s i acc = acc.reverse ++ s.data.toList.drop i := by
  intro n
  induction n with
  | zero =>
    intro i acc h
    unfold ByteArray.toList.loop
    rw [if_neg (by omega), List.drop_eq_nil_of_le (by rw [Array.length_toList]; have : s.data.size = s.size := rfl; omega), List.append_nil]
  | succ n ih =>
    intro i acc h
    have hs : s.data.size = s.size := rfl
    unfold ByteArray.toList.loop
    rw [if_pos (by omega), ih (i + 1) _ (by omega), List.drop_eq_getElem_cons (i := i) (by rw [Array.length_toList]; omega)]
    have e : s.get! i = s.data.toList[i]'(by rw [Array.length_toList]; omega) := by
      show s.data[i]! = _
      rw [getElem!_pos s.data i (by omega), Array.getElem_toList]
    rw [e, List.reverse_cons, List.append_assoc, List.singleton_append]
theorem toList_eq (s : ByteArray) : s.toList = s.data.toList := by
  unfold ByteArray.toList
  rw [loop_eq s _ 0 [] rfl]
  simp
theorem toList_beq {t s : ByteArray} (h : ¬ t = s) : (t.toList == s.toList) = false := by
  rw [beq_eq_false_iff_ne, toList_eq, toList_eq]
  intro e
  apply h
  cases t; cases s
  congr 1
  exact Array.toList_inj.1 e
end Go.Proofs.Ytccblcnjeekhbaa
/- oracle.New, walked. -/
namespace Go.Proofs.Ytccblcnjeekhbaa
open Go.RowKit Go.Maps Go.Proofs.Ytccblcnjeekhbaa.PStoreHolds Go.Proofs.YtccblcnjeekhbaaW.PrintWords Go.Proofs.YtccblcnjeekhbaaW.PrintLast Go.Proofs.YtccblcnjeekhbaaW.PrintMore
set_option linter.unusedVariables false
set_option linter.unusedSimpArgs false

theorem run_makeMapN (w : World) (n : Int) : (Instr.makeMap 116 (some (.int .i64 n))).run Try.prog w = .ok (.map (some w.heap.size)) (w.alloc (.map #[] 0)) := by
  simp [Instr.makeMap, go_sem, underlying, Try.underlying116]
theorem key9 : Keyed Try.prog 9 := string_keyed Try.underlying9
theorem zero39 (w : World) : (zeroValue 39).run Try.prog w = .ok (.int .u64 0) w := by kernel_rfl
theorem oCode_stop {xs : List S41} {j : Nat} {x : S41} {r : List S41} {q : Int} (hc : oCode xs = oGo [] xs) (E : oGo [] xs = oGo (xs.take j) (x :: r)) (ho : oOne (xs.take j) x = q) (hq : q ≠ 0) : oCode xs = q := by
  rw [hc, E]
  show (if oOne (xs.take j) x = 0 then _ else _) = q
  rw [ho, if_neg hq]
theorem oCode_on {xs : List S41} {j : Nat} {x : S41} {r : List S41} (E : oGo [] xs = oGo (xs.take j) (x :: r)) (ho : oOne (xs.take j) x = 0) (ht : xs.take (j + 1) = xs.take j ++ [x]) : oGo [] xs = oGo (xs.take (j + 1)) r := by
  rw [E, ht]
  show (if oOne (xs.take j) x = 0 then _ else _) = _
  rw [if_pos ho]
/-- the oracle's block and its map -/
structure OrB (n po bs : Nat) (seen : List S41) (w : World) : Prop where
  cell : w.cell? ⟨po, 0, none⟩ = some (.map (some bs))
  own : w.ownsMap (H := Unit) Try.prog 9 (plainElem Try.prog 39) bs seen.length (mapS seen)
  hb : n ≤ bs
theorem OrB.alloc {n po bs : Nat} {seen : List S41} {w : World} (h : OrB n po bs seen w) (o : Obj) : OrB n po bs seen (w.alloc o) :=
  ⟨Lib.cell?_alloc_some _ h.cell, h.own.alloc _, h.hb⟩
theorem OrB.drew {n po bs : Nat} {seen : List S41} {w : World} (h : OrB n po bs seen w) : OrB n po bs seen w.drew := ⟨h.cell, h.own, h.hb⟩
theorem OrB.look {n po bs : Nat} {seen : List S41} {w : World} (h : OrB n po bs seen w) {s : ByteArray} (hs : s.size ≤ 128) {b : Bool} (hb : hasS seen s = b) : ∃ v, (Instr.lookup 116 (.map (some bs)) (.string s) true).run Try.prog w = .ok (.tuple #[v, .bool b]) w := by
  obtain ⟨v, ps, hr, _⟩ := h.own.look_ok key9 Try.underlying116 (zero39 _) (zd := .lit (.int .u64 0)) (zp := []) (plainElem_int Try.underlying39 (by decide)) (Go.WideMaps.keyOf_string_mk Try.underlying9 (s := s) (by unfold maxLen; omega))
  rw [has_mapS, hb] at hr
  exact ⟨v, hr⟩
theorem below_turn {n b : Nat} {w W w6 : World} (h : Below n w W) (hg : W.grownBy w6 (some b)) (hn : n ≤ b) (hw : n ≤ w.heap.size) : Below n w w6 := by
  have T : Turn (fun k => k = b) W w6 := Turn.of_grown hg (fun k hk => .inl (Option.some.inj hk).symm)
  have hs := h.size
  exact ⟨T.os.trans h.os, T.tape.trans h.tape, T.output.trans h.output, Nat.le_trans h.size T.size, fun i hi => (T.block i (by omega) (by omega)).trans (h.block i hi)⟩
theorem OrB.put {n po bs : Nat} {seen : List S41} {w w6 : World} (h : OrB n po bs seen w) (hne : po ≠ bs) {x : S41} (hown : w6.ownsMap (H := Unit) Try.prog 9 (plainElem Try.prog 39) bs (seen.length + 1) ((mapS seen).put (kS x.f0) (.lit (.int .u64 x.f1)))) (hg : w.grownBy w6 (some bs)) : OrB n po bs (seen ++ [x]) w6 := by
  have T : Turn (fun k => k = bs) w w6 := Turn.of_grown hg (fun k hk => .inl (Option.some.inj hk).symm)
  refine ⟨T.cell h.cell hne, ?_, h.hb⟩
  rw [mapS_snoc, List.length_append]
  exact hown
def OPost (n : Nat) (xs : List S41) (w : World) (e : Ending) (w' : World) : Prop :=
  (oCode xs = 0 ∧ (∃ p : Addr, e = .returned (.tuple #[.pointer (some p), .int .i64 0])) ∨ oCode xs ≠ 0 ∧ e = .returned (.tuple #[.pointer none, .int .i64 (oCode xs)])) ∧ Below n w w'

set_option maxRecDepth 100000 in
set_option maxHeartbeats 16000000 in
theorem onew_call (A : Option Addr) (c : Nat) (xs : List S41) (w : World) (h : Kd.C k41 w A xs.length xs) (hc : xs.length ≤ c) (hn : xs.length < 5864062014805) (hw : ∀ x ∈ xs, (Lit.int .u64 x.f1).wf = true) :
    Calls Try.prog 33 #[.slice A xs.length c] w (OPost w.heap.size xs w) := by
  by_cases h64 : 64 < xs.length
  · have hcode : oCode xs = 40 := by unfold oCode; rw [if_pos h64]
    have g : (64 : Int) < (xs.length : Int) := by omega
    go_enter Try.func33, Try.ntmps33
    go_wp2_with fail
    go_ret2
    exact ⟨.inr ⟨by rw [hcode]; decide, by rw [hcode]; rfl⟩, Below.refl _ _⟩
  · have hcode : oCode xs = oGo [] xs := by unfold oCode; rw [if_neg h64]
    have g : ¬ (64 : Int) < (xs.length : Int) := by omega
    have g2 : (0 : Int) ≤ (xs.length : Int) := by omega
    have hmm := run_makeMapN
    have bm := World.ownsMap_made (H := Unit) w Try.prog 9 (plainElem Try.prog 39)
    go_enter Try.func33, Try.ntmps33
    go_wp2_with fail
    have OB : Hid (OrB w.heap.size (w.heap.size + 1) w.heap.size [] ((w.alloc (.map #[] 0)).alloc (.cells #[.map (some w.heap.size)] 118))) := Lib.hid ⟨by simp [go_sem], bm.alloc _, Nat.le_refl _⟩
    have BB : Hid (Below w.heap.size w ((w.alloc (.map #[] 0)).alloc (.cells #[.map (some w.heap.size)] 118))) := Lib.hid (Below.alloc (Below.alloc (Below.refl w.heap.size w) (Nat.le_refl _) _) (by simp) _)
    generalize (w.alloc (.map #[] 0)).alloc (.cells #[.map (some w.heap.size)] 118) = w1 at *
    clear bm hmm
    have OC := Lib.hid hcode
    clear hcode
    have C0 := Lib.hid h
    have W0 := Lib.hid hw
    clear h hw
    go_loopg [19] (xs.length + 1) (fun kq v19 w' => ∃ j : Nat, v19 = .int .i64 j ∧ Hid ((j + kq = xs.length + 1 ∧ j ≤ xs.length) ∧ OrB w.heap.size (w.heap.size + 1) w.heap.size (xs.take j) w' ∧ Below w.heap.size w w' ∧ oGo [] xs = oGo (xs.take j) (xs.drop j)))
    case atStart => exact ⟨0, rfl, Lib.hid ⟨⟨by omega, by omega⟩, OB.out, BB.out, rfl⟩⟩
    case round =>
      clear OB BB
      obtain ⟨j, rfl, HI⟩ := hrel
      obtain ⟨⟨hk, hjl⟩, OB, BB, E⟩ := HI.out
      clear HI
      by_cases hj : j < xs.length
      · have hjx := hj
        obtain ⟨ad, hA, c0, c1⟩ := at_T41 (Kd.C_below C0.out BB) (j : Int) (by omega) (by omega)
        have hrd : rd_T41 xs (j : Int) = xs[j] := by simp [rd_T41, hj]
        rw [hrd] at c0 c1
        subst hA
        simp only [Int.toNat_natCast] at c0 c1
        have hdrop : xs.drop j = xs[j] :: xs.drop (j + 1) := (List.drop_eq_getElem_cons hj)
        have htake : xs.take (j + 1) = xs.take j ++ [xs[j]] := (List.take_succ_eq_append_getElem hj)
        have hwx := Lib.hid (W0.out xs[j] (List.getElem_mem hj))
        rw [hdrop] at E
        have E1 := Lib.hid E
        have T1 := Lib.hid htake
        clear E hdrop htake hrd
        have hjx : (j : Int) < (xs.length : Int) := by omega
        have hj0 : (0 : Int) ≤ (j : Int) := by omega
        generalize hs : (xs[j]).f0 = s at *
        generalize hv : (xs[j]).f1 = v at *
        by_cases hemp : s = ⟨#[]⟩
        · have hco := oCode_stop (q := 41) OC.out E1.out (by unfold oOne; rw [hs, hemp, if_pos (.inl (by decide))]) (by decide)
          go_wp2_with fail
          go_ret2
          exact ⟨.inr ⟨by rw [hco]; decide, by rw [hco]; rfl⟩, Below.alloc BB BB.size _⟩
        · have hs0 : s.size ≠ 0 := fun h0 => hemp (by cases s; simp only [ByteArray.size, Array.size_eq_zero_iff] at h0; rw [h0])
          have hl1 := toList_ne hs0
          have hl2 : s.toList.isEmpty = false := by simpa using hl1
          by_cases hbig : (128 : Int) < (s.size : Int)
          · have hco := oCode_stop (q := 41) OC.out E1.out (by unfold oOne; rw [hs, if_pos (.inr (by omega))]) (by decide)
            go_wp2_with fail
            go_ret2
            exact ⟨.inr ⟨by rw [hco]; decide, by rw [hco]; rfl⟩, Below.alloc BB BB.size _⟩
          · have hsm := Lib.hid (show ¬ (s.size < 1 ∨ 128 < s.size) by omega)
            have OB1 := Lib.hid (OB.alloc (.cells #[.string s, .int .u64 v] 41))
            have f0 := OB1.out.cell
            have hs128 : s.size ≤ 128 := by omega
            cases hh : hasS (xs.take j) s with
            | true =>
              have hco := oCode_stop (q := 42) OC.out E1.out (by unfold oOne; rw [hs, if_neg hsm.out, if_pos hh]) (by decide)
              obtain ⟨vv, hlk⟩ := OB1.out.drew.look hs128 hh
              go_wp2_with fail
              go_region
              go_wp2_with fail
              go_ret2
              exact ⟨.inr ⟨by rw [hco]; decide, by rw [hco]; rfl⟩, Below.drew (Below.alloc BB BB.size _)⟩
            | false =>
              obtain ⟨vv, hlk⟩ := OB1.out.drew.look hs128 hh
              go_wp2_with fail
              go_region
              go_wp2_with fail
              have OB2 := Lib.hid OB1.out.drew.drew
              have g0 := OB2.out.cell
              (refine wp_region_still_tail 8 (by kernel_rfl) (by kernel_rfl) ?_; simp only [List.take_succ_cons, List.take_zero, List.drop_succ_cons, List.drop_zero]; change wpStill _ _ (World.drew _) (fun a' => wpList _ _ _ _ a' (World.drew _)) _ _)
              repeat still_step
              refine wpStill_nil ?_
              at_mapUpdate
              refine wpList_mapUpdate_own _ rfl _ _ _ 116 rfl 9 39 key9 Try.underlying116 _ w.heap.size _ _ rfl OB2.out.own (by unfold maxLen; simp; omega) _ _ _ rfl rfl (Go.WideMaps.keyOf_string_mk Try.underlying9 (s := s) (by unfold maxLen; omega)) _ [] (plainElem_int Try.underlying39 hwx.out) ?_
              intro w6 hown hgrow
              rw [← hs, ← hv] at hown
              have OB3 := Lib.hid (OB2.out.put (by omega) hown hgrow)
              have BB3 := Lib.hid (below_turn (Below.drew (Below.drew (Below.alloc BB BB.size (.cells #[.string s, .int .u64 v] 41)))) hgrow (Nat.le_refl _) (Nat.le_refl _))
              have E3 := Lib.hid (oCode_on E1.out (by unfold oOne; rw [hs, if_neg hsm.out, if_neg (by rw [hh]; decide)]) T1.out)
              clear hown hgrow
              rw [← T1.out] at OB3
              go_wp2_with fail
              go_roundg (gk - 1)
              case measure => omega
              case rel => exact ⟨j + 1, by simp, Lib.hid ⟨⟨by omega, by omega⟩, OB3.out, BB3.out, E3.out⟩⟩
      · have hj' : j = xs.length := by omega
        subst hj'
        rw [List.drop_length] at E
        have hz : oCode xs = 0 := OC.out.trans E
        go_wp2_with fail
        go_ret2
        exact ⟨.inl ⟨hz, _, rfl⟩, BB⟩
end Go.Proofs.Ytccblcnjeekhbaa
/- larderref04.New, walked. -/
namespace Go.Proofs.Ytccblcnjeekhbaa
open Go.RowKit Go.Maps Go.Proofs.Ytccblcnjeekhbaa.PStoreHolds Go.Proofs.YtccblcnjeekhbaaW.PrintWords Go.Proofs.YtccblcnjeekhbaaW.PrintLast Go.Proofs.YtccblcnjeekhbaaW.PrintMore
set_option linter.unusedVariables false
set_option linter.unusedSimpArgs false

def cellsO : List S41 → List Value
  | [] => []
  | x :: r => .string x.f0 :: .int .u64 x.f1 :: cellsO r
theorem cellsO_snoc (l : List S41) (x : S41) : cellsO (l ++ [x]) = cellsO l ++ [.string x.f0, .int .u64 x.f1] := by
  induction l with
  | nil => rfl
  | cons a r ih => simp only [List.cons_append, cellsO, ih]
/-- the reference's oracle: its block and the row of what was seen -/
structure OrR (n po : Nat) (v : Value) (seen : List S41) (w : World) : Prop where
  hp : w.heap[po]? = some (.cells #[v] 106 (0, 0))
  row : w.ownsRow n 41 2 v seen.length (cellsO seen)
  hn : n ≤ po
theorem OrR.cell {n po : Nat} {v : Value} {seen : List S41} {w : World} (h : OrR n po v seen w) : w.cell? ⟨po, 0, none⟩ = some v := by simp [World.cell?, h.hp]
theorem OrR.drew {n po : Nat} {v : Value} {seen : List S41} {w : World} (h : OrR n po v seen w) : OrR n po v seen w.drew := ⟨h.hp, h.row, h.hn⟩
theorem OrR.drewN {n po : Nat} {v : Value} {seen : List S41} {w : World} (h : OrR n po v seen w) (k : Nat) : OrR n po v seen (w.drewN k) := ⟨h.hp, h.row, h.hn⟩
theorem OrR.add {n po : Nat} {v : Value} {seen : List S41} {w W w1 : World} {v1 : Value} {x : S41} (h : OrR n po v seen w) (T : Turn (fun _ => False) w W) (hg : W.grownBy w1 v.ownBlock)
    (ho : w1.ownsRow n 41 2 v1 (seen.length + 1) (cellsO seen ++ [.string x.f0, .int .u64 x.f1])) : w1.heap[po]? = some (.cells #[v] 106 (0, 0)) ∧ OrR n po v1 (seen ++ [x]) (w1.setCell ⟨po, 0, none⟩ v1) := by
  have h1 := T.heap h.hp (fun h => h)
  have T2 : Turn (fun k => v.ownBlock = some k) W w1 := Turn.of_grown hg (fun k hk => .inl hk)
  have h2 : w1.heap[po]? = some (.cells #[v] 106 (0, 0)) := by
    refine T2.heap h1 (fun hk => ?_)
    obtain ⟨cur, hc⟩ := row_typed h.row po hk
    exact ne_heap hc h.hp (ne_type (by decide)) rfl
  refine ⟨h2, ?_, ?_, h.hn⟩
  · exact set_field h2 v1 rfl
  · rw [List.length_append, cellsO_snoc]
    refine own_move ho (fun k hk => Below.heap_setCell _ _ _ k (fun e => ?_))
    subst e
    obtain ⟨cur, hc⟩ := row_typed ho _ hk
    exact ne_heap hc h2 (ne_type (by decide)) rfl

theorem OrR.low {n po : Nat} {v : Value} {seen : List S41} {w wr W w1 : World} (h : OrR n po v seen wr) (B : Below n w wr) (hn : n ≤ w.heap.size) (T : Turn (fun _ => False) wr W) (hg : W.grownBy w1 v.ownBlock) (v1 : Value) : Below n w (w1.setCell ⟨po, 0, none⟩ v1) := by
  have hs := B.size
  have T1 : Turn (fun k => n ≤ k) wr W := T.mono (fun _ _ h => h.elim)
  have T2 : Turn (fun k => n ≤ k) W w1 := Turn.of_grown hg (fun k hk => .inl (own_base h.row k hk))
  have T3 : Turn (fun k => n ≤ k) w1 (w1.setCell ⟨po, 0, none⟩ v1) := (Turn.refl _ _).setCell _ _ (.inl h.hn)
  have T4 : Turn (fun k => n ≤ k) wr (w1.setCell ⟨po, 0, none⟩ v1) := (T1.then T2 (fun _ h => .inl h)).then T3 (fun _ h => .inl h)
  have B2 := T4.below (n := n) (fun _ h => h) (by omega)
  exact ⟨B2.os.trans B.os, B2.tape.trans B.tape, B2.output.trans B.output, Nat.le_trans B.size B2.size, fun i hi => (B2.block i hi).trans (B.block i hi)⟩
theorem hasS_hit {xs : List S41} {m j : Nat} {s : ByteArray} (hm : m < j) (hj : j < xs.length) (e : (xs[m]'(by omega)).f0 = s) : hasS (xs.take j) s = true := by
  unfold hasS
  rw [List.any_eq_true]
  refine ⟨xs[m]'(by omega), ?_, by simpa using e⟩
  rw [List.mem_take_iff_getElem]
  exact ⟨m, by omega, rfl⟩
theorem hasS_miss {xs : List S41} {m : Nat} {s : ByteArray} (hm : m < xs.length) (h : hasS (xs.take m) s = false) (e : xs[m].f0 ≠ s) : hasS (xs.take (m + 1)) s = false := by
  rw [List.take_succ_eq_append_getElem hm, hasS_snoc, h]
  simpa using e
set_option maxRecDepth 100000 in
set_option maxHeartbeats 16000000 in
theorem rnewo_call (A : Option Addr) (c : Nat) (xs : List S41) (w : World) (h : Kd.C k41 w A xs.length xs) (hc : xs.length ≤ c) (hn : xs.length < 5864062014805) :
    Calls Try.prog 21 #[.slice A xs.length c] w (OPost w.heap.size xs w) := by
  by_cases h64 : 64 < xs.length
  · have hcode : oCode xs = 40 := by unfold oCode; rw [if_pos h64]
    have g : (64 : Int) < (xs.length : Int) := by omega
    go_enter Try.func21, Try.ntmps21
    go_wp2_with fail
    go_ret2
    exact ⟨.inr ⟨by rw [hcode]; decide, by rw [hcode]; rfl⟩, Below.refl _ _⟩
  · have hcode : oCode xs = oGo [] xs := by unfold oCode; rw [if_neg h64]
    have g : ¬ (64 : Int) < (xs.length : Int) := by omega
    have g2 : (0 : Int) ≤ (xs.length : Int) := by omega
    go_enter Try.func21, Try.ntmps21
    go_wp2_with fail
    have OB : Hid (OrR w.heap.size w.heap.size (.slice none 0 0) [] (w.alloc (.cells #[.slice none 0 0] 106))) := Lib.hid ⟨alloc_new w _, World.ownsRow_nil _ _ _ _, Nat.le_refl _⟩
    have BB : Hid (Below w.heap.size w (w.alloc (.cells #[.slice none 0 0] 106))) := Lib.hid (Below.alloc (Below.refl w.heap.size w) (Nat.le_refl _) _)
    generalize w.alloc (.cells #[.slice none 0 0] 106) = w1 at *
    have OC := Lib.hid hcode
    clear hcode
    have C0 := Lib.hid h
    clear h
    go_loopg [5] (xs.length + 1) (fun kq v5 w' => ∃ (j : Nat) (v : Value), v5 = .int .i64 j ∧ Hid ((j + kq = xs.length + 1 ∧ j ≤ xs.length) ∧ OrR w.heap.size w.heap.size v (xs.take j) w' ∧ Below w.heap.size w w' ∧ oGo [] xs = oGo (xs.take j) (xs.drop j)))
    case atStart => exact ⟨0, _, rfl, Lib.hid ⟨⟨by omega, by omega⟩, OB.out, BB.out, rfl⟩⟩
    case round =>
      clear OB BB
      obtain ⟨j, vr, rfl, HI⟩ := hrel
      obtain ⟨⟨hk, hjl⟩, OB, BB, E⟩ := HI.out
      obtain ⟨gko, hgko⟩ : ∃ g, g = gk := ⟨gk, rfl⟩
      clear HI
      by_cases hj : j < xs.length
      · have hjx := hj
        obtain ⟨ad, hA, c0, c1⟩ := at_T41 (Kd.C_below C0.out BB) (j : Int) (by omega) (by omega)
        have hrd : rd_T41 xs (j : Int) = xs[j] := by simp [rd_T41, hj]
        rw [hrd] at c0 c1
        subst hA
        simp only [Int.toNat_natCast] at c0 c1
        have hdrop : xs.drop j = xs[j] :: xs.drop (j + 1) := (List.drop_eq_getElem_cons hj)
        have htake : xs.take (j + 1) = xs.take j ++ [xs[j]] := (List.take_succ_eq_append_getElem hj)
        rw [hdrop] at E
        have E1 := Lib.hid E
        have T1 := Lib.hid htake
        clear E hdrop htake hrd
        have hjx : (j : Int) < (xs.length : Int) := by omega
        have hj0 : (0 : Int) ≤ (j : Int) := by omega
        generalize hs : (xs[j]).f0 = s at *
        generalize hv : (xs[j]).f1 = v at *
        by_cases hemp : (s.size : Int) < 1
        · have hco := oCode_stop (q := 41) OC.out E1.out (by unfold oOne; rw [hs, if_pos (.inl (by omega))]) (by decide)
          go_wp2_with fail
          go_ret2
          exact ⟨.inr ⟨by rw [hco]; decide, by rw [hco]; rfl⟩, BB⟩
        · by_cases hbig : (128 : Int) < (s.size : Int)
          · have hco := oCode_stop (q := 41) OC.out E1.out (by unfold oOne; rw [hs, if_pos (.inr (by omega))]) (by decide)
            go_wp2_with fail
            go_ret2
            exact ⟨.inr ⟨by rw [hco]; decide, by rw [hco]; rfl⟩, BB⟩
          · have hsm := Lib.hid (show ¬ (s.size < 1 ∨ 128 < s.size) by omega)
            go_wp2_with fail
            go_loopg [6] (j + 1) (fun k2 v6 w2 => ∃ m : Nat, v6 = .int .i64 m ∧ Hid ((m + k2 = j + 1 ∧ m ≤ j) ∧ hasS (xs.take m) s = false ∧ OrR w.heap.size w.heap.size vr (xs.take j) w2 ∧ Below w.heap.size w w2))
            case atStart => exact ⟨0, rfl, Lib.hid ⟨⟨by omega, by omega⟩, rfl, OB, BB⟩⟩
            case round =>
              clear OB BB c0 c1
              obtain ⟨m, rfl, HI⟩ := hrel
              obtain ⟨⟨hk2, hml⟩, hno, OB, BB⟩ := HI.out
              clear HI
              obtain ⟨ad2, hA2, c0, c1⟩ := at_T41 (Kd.C_below C0.out BB) (j : Int) (by omega) (by omega)
              cases hA2
              have hrd : rd_T41 xs (j : Int) = xs[j] := by simp [rd_T41, hj]
              rw [hrd, hs] at c0
              rw [hrd, hv] at c1
              simp only [Int.toNat_natCast] at c0 c1
              by_cases hm : m < j
              · have hmx : m < xs.length := by omega
                obtain ⟨ad3, hA3, d0, d1⟩ := at_T41 (Kd.C_below C0.out BB) (m : Int) (by omega) (by omega)
                cases hA3
                have hrd2 : rd_T41 xs (m : Int) = xs[m] := by simp [rd_T41, hmx]
                rw [hrd2] at d0 d1
                simp only [Int.toNat_natCast] at d0 d1
                have hmi : (m : Int) < (j : Int) := by omega
                have hmi2 : (m : Int) < (xs.length : Int) := by omega
                have hm0 : (0 : Int) ≤ (m : Int) := by omega
                clear d1 c1 hrd hrd2
                by_cases heq : xs[m].f0 = s
                · have hco := oCode_stop (q := 42) OC.out E1.out (by unfold oOne; rw [hs, if_neg hsm.out, if_pos (hasS_hit hm hj heq)]) (by decide)
                  rw [heq] at d0
                  go_wp2_with fail
                  go_region
                  go_wp2_with fail
                  go_ret2
                  exact ⟨.inr ⟨by rw [hco]; decide, by rw [hco]; rfl⟩, by repeat (first | exact BB | apply Below.drew)⟩
                · have hmiss := Lib.hid (hasS_miss hmx hno heq)
                  generalize xs[m].f0 = t at *
                  have hbeq := toList_beq heq
                  go_wp2_with fail
                  go_region
                  go_wp2_with fail
                  go_roundg (gk - 1)
                  case measure => omega
                  case rel => exact ⟨m + 1, by simp, Lib.hid ⟨⟨by omega, by omega⟩, hmiss.out, OB.drew, by repeat (first | exact BB | apply Below.drew)⟩⟩
              · have hmj : m = j := by omega
                subst hmj
                have hjc := hjx
                have hok := Lib.hid (show oOne (xs.take m) xs[m] = 0 by unfold oOne; rw [hs, if_neg hsm.out, if_neg (by rw [hno]; decide)])
                have hrow := Lib.hid OB
                have hcell := OB.cell
                have e1 : wr.drew.cell? ⟨w.heap.size, 0, none⟩ = some vr := hcell
                have e2 : (wr.drew.alloc (.cells #[.string s, .int .u64 v] 41)).cell? ⟨w.heap.size, 0, none⟩ = some vr := Lib.cell?_alloc_some _ e1
                have e3 : (wr.alloc (.cells #[.string s, .int .u64 v] 41)).cell? ⟨w.heap.size, 0, none⟩ = some vr := Lib.cell?_alloc_some _ hcell
                have f0 : (wr.drew.alloc (.cells #[.string s, .int .u64 v] 41)).cell? (ad.add (m * 2)) = some (.string s) := Lib.cell?_alloc_some _ c0
                have hT : Turn (fun _ => False) wr (wr.drew.alloc (.cells #[.string s, .int .u64 v] 41)) := ((Turn.refl _ wr).drew).alloc _
                have hT := Lib.hid hT
                have hB := Lib.hid BB
                have hE := Lib.hid (oCode_on E1.out hok.out T1.out)
                have hlen : (xs.take m).length = m := by simp; omega
                have hLn := Lib.hid hlen
                have hrw := Lib.hid (show (wr.drew.alloc (.cells #[.string s, .int .u64 v] 41)).ownsRow w.heap.size 41 2 vr (xs.take m).length (cellsO (xs.take m)) from World.ownsRow.alloc (w := wr.drew) OB.row _)
                have hsz := Lib.hid (show w.heap.size ≤ (wr.drew.alloc (.cells #[.string s, .int .u64 v] 41)).heap.size from Nat.le_trans BB.size (by rw [size_a]; exact Nat.le_succ _))
                have hbd := Lib.hid (show ((xs.take m).length + 1) * 24 ≤ 140737488355328 by omega)
                clear OB BB hlen hcell
                go_wp2_with fail
                go_region_law (refine step_append_at w.heap.size (by simp [Region.wanted]) (.tmp 54) (.tmp 59) 23 41 (.agg #[.string ⟨#[]⟩, .int .u64 0]) 2 24 rfl Try.underlying23 info41 rfl (by decide) (by decide) vr (xs.take m).length (cellsO (xs.take m)) [.string s, .int .u64 v] wr.heap.size rfl rfl rfl (by simp [Value.oneCell']) (by exact alloc_new wr.drew _) hrw.out hsz.out hbd.out ?_; intro v1 w1 ho hg hat; have hadd := Lib.hid (hrow.out.add (x := xs[m]) hT.out hg (by rw [hs, hv]; exact ho)); have hlow := Lib.hid (hrow.out.low hB.out (Nat.le_refl _) hT.out hg v1); have hc1 : w1.cell? ⟨w.heap.size, 0, none⟩ = some vr := (by simp [World.cell?, hadd.out.1]); have hfz : w1.frozen? ⟨w.heap.size, 0, none⟩ = false := (by simp [World.frozen?, hadd.out.1]); clear hat hg; obtain ⟨g1, cap1, hv1, hb1, hz⟩ := ho.form (by omega); clear ho hz hb1; subst hv1)
                all_goals go_wp2_with fail
                all_goals
                  have A0 := hadd.out.2
                  have B0 := hlow.out
                  rw [hLn.out] at A0 B0
                  rw [← T1.out] at A0
                  go_roundg (gko - 1)
                  case measure => omega
                  case rel => exact ⟨m + 1, _, by simp, Lib.hid ⟨⟨by omega, by omega⟩, A0, B0, hE.out⟩⟩
      · have hj' : j = xs.length := by omega
        subst hj'
        rw [List.drop_length] at E
        have hz : oCode xs = 0 := OC.out.trans E
        go_wp2_with fail
        go_ret2
        exact ⟨.inl ⟨hz, _, rfl⟩, BB⟩
end Go.Proofs.Ytccblcnjeekhbaa
/- store.begin, walked. -/
namespace Go.Proofs.Ytccblcnjeekhbaa
open Go.RowKit Go.Maps Go.Proofs.Ytccblcnjeekhbaa.PStoreHolds Go.Proofs.YtccblcnjeekhbaaW.PrintWords Go.Proofs.YtccblcnjeekhbaaW.PrintLast Go.Proofs.YtccblcnjeekhbaaW.PrintMore
set_option linter.unusedVariables false
set_option linter.unusedSimpArgs false

/-- a store: its block, its books' map, its overrides -/
structure StB (n ps mb : Nat) (pa : Addr) (nx : Int) (v : Value) (xs : List S41) (w : World) : Prop where
  hp : ∃ po : Addr, w.heap[ps]? = some (.cells #[.int .i32 0, .int .u32 0, .int .i64 nx, .map (some mb), .pointer (some pa), .pointer (some po), v] 87 (0, 0))
  row : Kd.R k41 41 w n (fun _ => True) v xs
  hps : n ≤ ps
  hmb : n ≤ mb
def BeginPost (pa : Addr) (nx : Int) (xs : List S41) (w : World) (e : Ending) (w' : World) : Prop :=
  (oCode xs = 0 ∧ (∃ ps mb v, e = .returned (.tuple #[.pointer (some ⟨ps, 0, none⟩), .int .i64 0]) ∧ StB w.heap.size ps mb pa nx v xs w' ∧ w'.heap[mb]? = some (.map #[] 0)) ∨ oCode xs ≠ 0 ∧ e = .returned (.tuple #[.pointer none, .int .i64 (oCode xs)])) ∧ Below w.heap.size w w'
set_option maxRecDepth 100000 in
set_option maxHeartbeats 16000000 in
theorem begin_call (pa : Addr) (nx : Int) (A : Option Addr) (c : Nat) (xs : List S41) (w : World) (h : Kd.C k41 w A xs.length xs) (hc : xs.length ≤ c) (hn : xs.length < 5864062014805) (hw : ∀ x ∈ xs, (Lit.int .u64 x.f1).wf = true) :
    Calls Try.prog 17 #[.pointer (some pa), .int .i64 nx, .slice A xs.length c] w (BeginPost pa nx xs w) := by
  have hcl := Lib.hid (clone_call A c xs w h hc hn)
  have hmm := @run_makeMap Try.prog
  go_enter Try.func17, Try.ntmps17
  go_wp2_with fail
  refine hcl.out.mono ?_
  rintro e w1 ⟨v1, rfl, R1, B1⟩
  obtain ⟨A1, c1, rfl, hc1, C1⟩ := R1.2.reads
  have hon := Lib.hid (onew_call A1 c1 xs w1 C1 hc1 hn hw)
  go_wp2_with fail
  refine hon.out.mono ?_
  rintro e w2 ⟨P, B2⟩
  rcases P with ⟨ok, p, rfl⟩ | ⟨no, rfl⟩
  · go_wp2_with fail
    go_ret2
    have B3 : Below w.heap.size w w2 := B1.trans (B2.mono B1.size)
    have s1 : (w2.alloc (.map #[] 0)).heap.size = w2.heap.size + 1 := by
      show (w2.heap.push _).size = _
      simp
    have hm := alloc_new w2 (.map #[] 0)
    have hs := alloc_new (w2.alloc (.map #[] 0)) (.cells #[.int .i32 0, .int .u32 0, .int .i64 nx, .map (some w2.heap.size), .pointer (some pa), .pointer (some p), .slice A1 xs.length c1] 87)
    rw [s1] at hs
    refine ⟨.inl ⟨ok, _, _, _, rfl, ⟨⟨p, hs⟩, Kd.R_alloc (Kd.R_alloc (Kd.R_below R1 B2) _) _, Nat.le_trans B3.size (Nat.le_succ _), B3.size⟩, alloc_old hm _⟩, ?_⟩
    exact Below.alloc (Below.alloc B3 B3.size _) (by rw [s1]; exact Nat.le_trans B3.size (Nat.le_succ _)) _
  · have hno : (oCode xs == 0) = false := by simpa using no
    go_wp2_with fail
    go_ret2
    exact ⟨.inr ⟨no, rfl⟩, B1.trans (B2.mono B1.size)⟩
end Go.Proofs.Ytccblcnjeekhbaa
/- swiss.At, Map.Off, Map.Layout, Store.Arena, walked. -/
namespace Go.Proofs.Ytccblcnjeekhbaa
open Go.RowKit Go.Maps Go.Proofs.Ytccblcnjeekhbaa.PStoreHolds
set_option linter.unusedVariables false
set_option linter.unusedSimpArgs false

/-- a map's handle: arena, layout, oracle, offset -/
def mpO (pa po : Addr) (f0 f1 f2 f3 f4 f5 f6 f7 f8 off : Int) : Value := .agg #[.pointer (some pa), .int .i64 f0, .int .i64 f1, .int .i64 f2, .int .i64 f3, .int .i64 f4, .int .i64 f5, .int .i64 f6, .int .i64 f7, .int .i64 f8, .pointer (some po), .int .i64 off]
set_option maxRecDepth 100000 in
theorem at_call (pa po : Addr) (f0 f1 f2 f3 f4 f5 f6 f7 f8 off : Int) (w : World) :
    Calls Try.prog 20 #[.pointer (some pa), layO f0 f1 f2 f3 f4 f5 f6 f7 f8, .pointer (some po), .int .i64 off] w fun e w' => e = .returned (mpO pa po f0 f1 f2 f3 f4 f5 f6 f7 f8 off) ∧ Below w.heap.size w w' := by
  unfold mpO layO
  go_enter Try.func20, Try.ntmps20
  go_wp2_with fail
  refine bodyPost_ret (v := .agg #[.pointer (some pa), .int .i64 f0, .int .i64 f1, .int .i64 f2, .int .i64 f3, .int .i64 f4, .int .i64 f5, .int .i64 f6, .int .i64 f7, .int .i64 f8, .pointer (some po), .int .i64 off]) (by simp [results, Try.results20, go_sem]) rfl ?_
  refine ⟨rfl, ?_⟩
  repeat (first | exact Below.refl _ _ | refine Below.alloc ?_ (by repeat (first | exact Nat.le_refl _ | (rw [size_a]; apply Nat.le_succ_of_le))) _)
set_option maxRecDepth 100000 in
theorem off_call (pa po : Addr) (f0 f1 f2 f3 f4 f5 f6 f7 f8 off : Int) (w : World) :
    Calls Try.prog 40 #[mpO pa po f0 f1 f2 f3 f4 f5 f6 f7 f8 off] w fun e w' => e = .returned (.int .i64 off) ∧ Below w.heap.size w w' := by
  unfold mpO
  go_enter Try.func40, Try.ntmps40
  go_wp2_with fail
  go_ret
  refine ⟨rfl, ?_⟩
  repeat (first | exact Below.refl _ _ | refine Below.alloc ?_ (by repeat (first | exact Nat.le_refl _ | (rw [size_a]; apply Nat.le_succ_of_le))) _)
set_option maxRecDepth 100000 in
theorem layout_call (pa po : Addr) (f0 f1 f2 f3 f4 f5 f6 f7 f8 off : Int) (w : World) :
    Calls Try.prog 41 #[mpO pa po f0 f1 f2 f3 f4 f5 f6 f7 f8 off] w fun e w' => e = .returned (layO f0 f1 f2 f3 f4 f5 f6 f7 f8) ∧ Below w.heap.size w w' := by
  unfold mpO layO
  go_enter Try.func41, Try.ntmps41
  go_wp2_with fail
  refine bodyPost_ret (v := .agg #[.int .i64 f0, .int .i64 f1, .int .i64 f2, .int .i64 f3, .int .i64 f4, .int .i64 f5, .int .i64 f6, .int .i64 f7, .int .i64 f8]) (by simp [results, Try.results41, go_sem]) rfl ?_
  refine ⟨rfl, ?_⟩
  repeat (first | exact Below.refl _ _ | refine Below.alloc ?_ (by repeat (first | exact Nat.le_refl _ | (rw [size_a]; apply Nat.le_succ_of_le))) _)
theorem arena_call (n ps mb : Nat) (pa : Addr) (nx : Int) (v : Value) (xs : List S41) (w : World) (h : StB n ps mb pa nx v xs w) :
    Calls Try.prog 12 #[.pointer (some ⟨ps, 0, none⟩)] w fun e w' => e = .returned (.pointer (some pa)) ∧ w' = w := by
  obtain ⟨po, hp⟩ := h.hp
  have hc := cell_of (i := 4) (v := .pointer (some pa)) hp rfl
  go_enter Try.func12, Try.ntmps12
  go_wp2_with fail
  go_ret
  exact ⟨rfl, rfl⟩
end Go.Proofs.Ytccblcnjeekhbaa
/- The hold's refusal, in plain Lean: what Restore asks and what the document asks are the same. -/
namespace Go.Proofs.Ytccblcnjeekhbaa
open Go.RowKit Go.Maps Go.Proofs.Ytccblcnjeekhbaa.PStoreHolds
set_option linter.unusedVariables false

def szOk (cls : List Int) (off : Int) : Bool := decide ((sizeOf' cls off).2 = 0) && decide ((sizeOf' cls off).1 = 64)
def val43 (y : S43) : Bool := valB y.f0 y.f1 y.f2 y.f3 y.f4 y.f5 y.f6 y.f7 y.f8
/-- what is asked of one map alone -/
def mapOk (nx : Int) (cls : List Int) (x : S47) : Bool := decide (x.f0 < nx) && (val43 x.f1.f1 && szOk cls x.f1.f0)
/-- as Restore asks -/
def hBad (nx : Int) (cls : List Int) (last : Int) (offs : List Int) (x : S47) : Prop := x.f0 ≤ last ∨ mapOk nx cls x = false ∨ x.f1.f0 ∈ offs
instance (nx : Int) (cls : List Int) (last : Int) (offs : List Int) (x : S47) : Decidable (hBad nx cls last offs x) := by unfold hBad; infer_instance
def hGo (nx : Int) (cls : List Int) : Int → List Int → List S47 → Int
  | _, _, [] => 0
  | last, offs, x :: r => if hBad nx cls last offs x then 144 else hGo nx cls x.f0 (offs ++ [x.f1.f0]) r
/-- as the document asks -/
def rBad (nx : Int) (cls : List Int) (seen : List S47) (x : S47) : Prop := x.f0 < 1 ∨ mapOk nx cls x = false ∨ ∃ y ∈ seen, x.f0 ≤ y.f0 ∨ y.f1.f0 = x.f1.f0
instance (nx : Int) (cls : List Int) (seen : List S47) (x : S47) : Decidable (rBad nx cls seen x) := by unfold rBad; infer_instance
def rGo (nx : Int) (cls : List Int) : List S47 → List S47 → Int
  | _, [] => 0
  | seen, x :: r => if rBad nx cls seen x then 144 else rGo nx cls (seen ++ [x]) r
/-- the last handle that was taken -/
def Lasts (last : Int) (seen : List S47) : Prop := (∀ y ∈ seen, y.f0 ≤ last) ∧ (seen = [] ∧ last = 0 ∨ 1 ≤ last ∧ ∃ y ∈ seen, y.f0 = last)
theorem bad_iff {nx : Int} {cls : List Int} {last : Int} {seen : List S47} (h : Lasts last seen) (x : S47) : hBad nx cls last (seen.map (fun y => y.f1.f0)) x ↔ rBad nx cls seen x := by
  obtain ⟨h1, h2⟩ := h
  unfold hBad rBad
  constructor
  · rintro (a | a | a)
    · rcases h2 with ⟨rfl, rfl⟩ | ⟨h2, y, hy, rfl⟩
      · exact .inl (by omega)
      · exact .inr (.inr ⟨y, hy, .inl a⟩)
    · exact .inr (.inl a)
    · obtain ⟨y, hy, e⟩ := List.mem_map.1 a
      exact .inr (.inr ⟨y, hy, .inr e⟩)
  · rintro (a | a | ⟨y, hy, a | a⟩)
    · refine .inl ?_
      rcases h2 with ⟨rfl, rfl⟩ | ⟨h2, _⟩ <;> omega
    · exact .inr (.inl a)
    · exact .inl (Int.le_trans a (h1 y hy))
    · exact .inr (.inr (List.mem_map.2 ⟨y, hy, a⟩))
theorem lasts_on {nx : Int} {cls : List Int} {last : Int} {seen : List S47} (h : Lasts last seen) {x : S47} (hx : ¬ hBad nx cls last (seen.map (fun y => y.f1.f0)) x) : Lasts x.f0 (seen ++ [x]) := by
  unfold hBad at hx
  simp only [not_or] at hx
  obtain ⟨h1, h2⟩ := h
  have hlt : last < x.f0 := by omega
  refine ⟨fun y hy => ?_, .inr ⟨?_, x, by simp, rfl⟩⟩
  · rcases List.mem_append.1 hy with hy | hy
    · have := h1 y hy; omega
    · simp only [List.mem_singleton] at hy; subst hy; exact Int.le_refl _
  · rcases h2 with ⟨_, rfl⟩ | ⟨h2, _⟩ <;> omega
theorem go_eq (nx : Int) (cls : List Int) : ∀ (ks : List S47) (last : Int) (seen : List S47), Lasts last seen → hGo nx cls last (seen.map (fun y => y.f1.f0)) ks = rGo nx cls seen ks
  | [], _, _, _ => rfl
  | x :: r, last, seen, h => by
    have hb := bad_iff (nx := nx) (cls := cls) h x
    show (if hBad nx cls last (seen.map (fun y => y.f1.f0)) x then 144 else hGo nx cls x.f0 (seen.map (fun y => y.f1.f0) ++ [x.f1.f0]) r) = (if rBad nx cls seen x then 144 else rGo nx cls (seen ++ [x]) r)
    by_cases hx : hBad nx cls last (seen.map (fun y => y.f1.f0)) x
    · rw [if_pos hx, if_pos (hb.1 hx)]
    · rw [if_neg hx, if_neg (fun e => hx (hb.2 e))]
      have := go_eq nx cls r x.f0 (seen ++ [x]) (lasts_on h hx)
      rw [List.map_append] at this
      exact this
/-- the hold's code -/
def hCode (xs : List S41) (nx : Int) (ks : List S47) (cls : List Int) : Int := if oCode xs ≠ 0 then oCode xs else if nx < 1 ∨ 4611686018427387904 < nx then 144 else hGo nx cls 0 [] ks
def rCode (xs : List S41) (nx : Int) (ks : List S47) (cls : List Int) : Int := if oCode xs ≠ 0 then oCode xs else if nx < 1 ∨ 4611686018427387904 < nx then 144 else rGo nx cls [] ks
theorem codes (xs : List S41) (nx : Int) (ks : List S47) (cls : List Int) : hCode xs nx ks cls = rCode xs nx ks cls := by
  unfold hCode rCode
  rw [show hGo nx cls 0 [] ks = rGo nx cls [] ks from go_eq nx cls ks 0 [] ⟨fun y hy => (by cases hy), .inl ⟨rfl, rfl⟩⟩]
end Go.Proofs.Ytccblcnjeekhbaa
/- larderref14.Refuses, walked. -/
namespace Go.Proofs.Ytccblcnjeekhbaa
open Go.RowKit Go.Maps Go.Proofs.Ytccblcnjeekhbaa.PStoreHolds Go.Proofs.YtccblcnjeekhbaaW.PrintWords Go.Proofs.YtccblcnjeekhbaaW.PrintLast Go.Proofs.YtccblcnjeekhbaaW.PrintMore
set_option linter.unusedVariables false
set_option linter.unusedSimpArgs false

def RefusesPost (xs : List S41) (nx : Int) (ks : List S47) (cls : List Int) (w : World) (e : Ending) (w' : World) : Prop :=
  e = .returned (.int .i64 (rCode xs nx ks cls)) ∧ Below w.heap.size w w'
theorem rGo_stop {nx : Int} {cls : List Int} {ks : List S47} {j : Nat} {x : S47} {r : List S47} (E : rGo nx cls [] ks = rGo nx cls (ks.take j) (x :: r)) (h : rBad nx cls (ks.take j) x) : rGo nx cls [] ks = 144 := by
  rw [E]
  show (if rBad nx cls (ks.take j) x then _ else _) = _
  rw [if_pos h]
theorem rGo_on {nx : Int} {cls : List Int} {ks : List S47} {j : Nat} {x : S47} {r : List S47} (E : rGo nx cls [] ks = rGo nx cls (ks.take j) (x :: r)) (h : ¬ rBad nx cls (ks.take j) x) (ht : ks.take (j + 1) = ks.take j ++ [x]) : rGo nx cls [] ks = rGo nx cls (ks.take (j + 1)) r := by
  rw [E, ht]
  show (if rBad nx cls (ks.take j) x then _ else _) = _
  rw [if_neg h]
theorem turn_of_below {w w' : World} (B : Below w.heap.size w w') : Turn (fun _ => False) w w' := Turn.of_below B (Nat.le_refl _)

set_option maxRecDepth 100000 in
set_option maxHeartbeats 16000000 in
theorem refuses_call (n pr : Nat) (cls : List Int) (G : Nat → Prop) (A1 A3 : Option Addr) (c1 c3 : Nat) (xs : List S41) (nx : Int) (ks : List S47) (w : World)
    (h1 : Kd.C k41 w A1 xs.length xs) (hc1 : xs.length ≤ c1) (hn1 : xs.length < 5864062014805) (h3 : Kd.C k47 w A3 ks.length ks) (hc3 : ks.length ≤ c3) (hn3 : ks.length < 1599289640401)
    (hwf : ∀ x ∈ ks, (Lit.int .i64 x.f1.f0).wf = true) (hR : RefZ w n pr cls G) :
    Calls Try.prog 10 #[.agg #[.slice A1 xs.length c1, .int .i64 nx, .slice A3 ks.length c3], .pointer (some ⟨pr, 0, none⟩)] w (RefusesPost xs nx ks cls w) := by
  have b1 : Hid (∀ o, Calls Try.prog 21 #[.slice A1 xs.length c1] (w.alloc o) (OPost (w.alloc o).heap.size xs (w.alloc o))) := Lib.hid (fun o => rnewo_call A1 c1 xs (w.alloc o) (Kd.C_alloc h1 o) hc1 hn1)
  have H3 := Lib.hid h3
  have HR := Lib.hid hR
  have HW := Lib.hid hwf
  clear h1 h3 hR hwf
  go_enter Try.func10, Try.ntmps10
  go_wp2_with fail
  refine (b1.out _).mono ?_
  rintro e w1 ⟨P, B1⟩
  have B0 : Hid (Below w.heap.size w w1) := Lib.hid ((Below.alloc (Below.refl w.heap.size w) (Nat.le_refl _) (.cells #[.slice A1 xs.length c1, .int .i64 nx, .slice A3 ks.length c3] 26)).trans (B1.mono (by rw [size_a]; exact Nat.le_succ _)))
  have hbx : Hid (w1.heap[w.heap.size]? = some (.cells #[.slice A1 xs.length c1, .int .i64 nx, .slice A3 ks.length c3] 26 (0, 0))) := Lib.hid ((B1.block _ (by rw [size_a]; exact Nat.lt_succ_self _)).trans (alloc_new w _))
  have k0 := cell_of (i := 0) (v := .slice A1 xs.length c1) hbx.out rfl
  have k1 := cell_of (i := 1) (v := .int .i64 nx) hbx.out rfl
  have k2 := cell_of (i := 2) (v := .slice A3 ks.length c3) hbx.out rfl
  clear B1 b1
  rcases P with ⟨ok, p, rfl⟩ | ⟨no, rfl⟩
  · by_cases hb : nx < 1 ∨ 4611686018427387904 < nx
    · have hco : rCode xs nx ks cls = 144 := by unfold rCode; rw [if_neg (by simpa using ok), if_pos hb]
      rcases hb with hb | hb
      all_goals
        go_wp2_with fail
        go_ret
        exact ⟨by rw [hco]; rfl, B0.out⟩
    · have hco := Lib.hid (show rCode xs nx ks cls = rGo nx cls [] ks by unfold rCode; rw [if_neg (by simpa using ok), if_neg hb])
      have hb1 : ¬ nx < 1 := fun e => hb (.inl e)
      have hb2 : ¬ 4611686018427387904 < nx := fun e => hb (.inr e)
      clear hb
      go_wp2_with fail
      clear k0 k1 k2
      have hks0 : (0 : Int) ≤ (ks.length : Int) := by omega
      go_loopg [7] (ks.length + 1) (fun kq v7 w' => ∃ j : Nat, v7 = .int .i64 j ∧ Hid ((j + kq = ks.length + 1 ∧ j ≤ ks.length) ∧ Below w.heap.size w w' ∧ w'.heap[w.heap.size]? = some (.cells #[.slice A1 xs.length c1, .int .i64 nx, .slice A3 ks.length c3] 26 (0, 0)) ∧ rGo nx cls [] ks = rGo nx cls (ks.take j) (ks.drop j)))
      case atStart => exact ⟨0, rfl, Lib.hid ⟨⟨by omega, by omega⟩, B0.out, hbx.out, rfl⟩⟩
      case round =>
        clear B0 hbx
        obtain ⟨j, rfl, HI⟩ := hrel
        obtain ⟨⟨hk, hjl⟩, BB, hbx, E⟩ := HI.out
        clear HI
        obtain ⟨gko, hgko⟩ : ∃ g, g = gk := ⟨gk, rfl⟩
        have k0 := cell_of (i := 0) (v := .slice A1 xs.length c1) hbx rfl
        have k1 := cell_of (i := 1) (v := .int .i64 nx) hbx rfl
        have k2 := cell_of (i := 2) (v := .slice A3 ks.length c3) hbx rfl
        by_cases hj : j < ks.length
        · obtain ⟨ad, hA, q0, q1, q2, q3, q4, q5, q6, q7, q8, q9, q10⟩ := at_T47 (Kd.C_below H3.out BB) (j : Int) (by omega) (by omega)
          have hrd : rd_T47 ks (j : Int) = ks[j] := by simp [rd_T47, hj]
          rw [hrd] at q0 q1 q2 q3 q4 q5 q6 q7 q8 q9 q10
          subst hA
          simp only [Int.toNat_natCast] at q0 q1 q2 q3 q4 q5 q6 q7 q8 q9 q10
          have hdrop : ks.drop j = ks[j] :: ks.drop (j + 1) := (List.drop_eq_getElem_cons hj)
          have T1 := Lib.hid (show ks.take (j + 1) = ks.take j ++ [ks[j]] from List.take_succ_eq_append_getElem hj)
          rw [hdrop] at E
          have E1 := Lib.hid E
          have hwo := Lib.hid (HW.out ks[j] (List.getElem_mem hj))
          have hjx : (j : Int) < (ks.length : Int) := by omega
          have hj0 : (0 : Int) ≤ (j : Int) := by omega
          clear E hdrop hrd
          generalize hx : ks[j] = x at *
          obtain ⟨y, o, f0, f1, f2, f3, f4, f5, f6, f7, f8⟩ := x
          simp only at q0 q1 q2 q3 q4 q5 q6 q7 q8 q9 q10
          have hsz := Lib.hid (fun (w9 : World) (T : Turn (fun _ => False) wr w9) => show Calls Try.prog 22 #[.pointer (some ⟨pr, 0, none⟩), .int .i64 o] w9 fun e w' => e = .returned (.tuple #[.int .i64 (sizeOf' cls o).1, .int .i64 (sizeOf' cls o).2]) ∧ w9 = w' from by
            obtain ⟨vA, bl, A, hF, hc, hs, hl⟩ := RefZ_kept HR.out ((turn_of_below BB).then T (fun _ h => h.elim)) (fun _ _ h => h)
            exact rsize_call A hc (by rw [A.len]; exact hl) o)
          have hva := Lib.hid (fun (w9 : World) => rvalid_call w9 f0 f1 f2 f3 f4 f5 f6 f7 f8)
          unfold layO at hva
          go_wp2_with fail
          refine (hsz.out _ (by repeat (first | exact Turn.refl _ _ | apply Turn.drewN | apply Turn.drew | apply Turn.alloc))).mono ?_
          rintro e w' ⟨rfl, rfl⟩
          go_wp2_with fail
          refine (hva.out _).mono ?_
          rintro e w9 ⟨rfl, T9⟩
          have hL := T9.heap (alloc_new wr _) (fun h => h)
          have hb9 := T9.heap (alloc_old hbx (.cells #[.int .i64 y, .int .i64 o, .int .i64 f0, .int .i64 f1, .int .i64 f2, .int .i64 f3, .int .i64 f4, .int .i64 f5, .int .i64 f6, .int .i64 f7, .int .i64 f8] 47)) (fun h => h)
          have B9 := Lib.hid ((Below.alloc BB BB.size _).trans (T9.below (n := w.heap.size) (fun _ h => h.elim) (by rw [size_a]; exact Nat.le_trans BB.size (Nat.le_succ _))))
          have m0 := cell_of (i := 0) (v := .int .i64 y) hL rfl
          have m1 := cell_of (i := 1) (v := .int .i64 o) hL rfl
          have g1 := cell_of (i := 1) (v := .int .i64 nx) hb9 rfl
          have g2 := cell_of (i := 2) (v := .slice (some ad) ks.length c3) hb9 rfl
          have hL9 := Lib.hid hL
          have hb99 := Lib.hid hb9
          clear k0 k1 k2 q0 q1 q2 q3 q4 q5 q6 q7 q8 q9 q10 hL hb9 hsz hva T9 BB hbx
          by_cases z1 : y < 1
          · have hst := rGo_stop E1.out (.inl z1)
            have hz : rCode xs nx ks cls = 144 := hco.out.trans hst
            go_wp2_with fail
            go_ret
            exact ⟨by rw [hz]; rfl, B9.out⟩
          · by_cases z2 : nx ≤ y
            · have hst := rGo_stop E1.out (.inr (.inl (by simp [mapOk]; omega)))
              have hz : rCode xs nx ks cls = 144 := hco.out.trans hst
              go_wp2_with fail
              go_ret
              exact ⟨by rw [hz]; rfl, B9.out⟩
            · cases z3 : valB f0 f1 f2 f3 f4 f5 f6 f7 f8 with
              | false =>
                have hst := rGo_stop E1.out (.inr (.inl (by simp [mapOk, val43, z3])))
                have hz : rCode xs nx ks cls = 144 := hco.out.trans hst
                go_wp2_with fail
                go_ret
                exact ⟨by rw [hz]; rfl, B9.out⟩
              | true =>
                by_cases z4 : (sizeOf' cls o).2 = 0
                · by_cases z5 : (sizeOf' cls o).1 = 64
                  · go_wp2_with fail
                    go_loopg [12] (j + 1) (fun k2 v12 w2 => ∃ m : Nat, v12 = .int .i64 m ∧ Hid ((m + k2 = j + 1 ∧ m ≤ j) ∧ (∀ z ∈ ks.take m, ¬ (y ≤ z.f0 ∨ z.f1.f0 = o)) ∧ Below w.heap.size w w2 ∧ w2.heap[wr.heap.size]? = some (.cells #[.int .i64 y, .int .i64 o, .int .i64 f0, .int .i64 f1, .int .i64 f2, .int .i64 f3, .int .i64 f4, .int .i64 f5, .int .i64 f6, .int .i64 f7, .int .i64 f8] 47 (0, 0)) ∧ w2.heap[w.heap.size]? = some (.cells #[.slice A1 xs.length c1, .int .i64 nx, .slice (some ad) ks.length c3] 26 (0, 0))))
                    case atStart => exact ⟨0, rfl, Lib.hid ⟨⟨by omega, by omega⟩, fun z hz => (by simp at hz), B9.out, hL9.out, hb99.out⟩⟩
                    case round =>
                      clear B9 hL9 hb99 m0 m1 g1 g2
                      obtain ⟨m, rfl, HI⟩ := hrel
                      obtain ⟨⟨hk2, hml⟩, hno, B9, hL, hb9⟩ := HI.out
                      clear HI
                      have m0 := cell_of (i := 0) (v := .int .i64 y) hL rfl
                      have m1 := cell_of (i := 1) (v := .int .i64 o) hL rfl
                      have g1 := cell_of (i := 1) (v := .int .i64 nx) hb9 rfl
                      have g2 := cell_of (i := 2) (v := .slice (some ad) ks.length c3) hb9 rfl
                      by_cases hm : m < j
                      · have hmx : m < ks.length := by omega
                        obtain ⟨ad2, hA2, p0, p1, p2, p3, p4, p5, p6, p7, p8, p9, p10⟩ := at_T47 (Kd.C_below H3.out B9) (m : Int) (by omega) (by omega)
                        cases hA2
                        clear p2 p3 p4 p5 p6 p7 p8 p9 p10
                        have hrd : rd_T47 ks (m : Int) = ks[m] := by simp [rd_T47, hmx]
                        rw [hrd] at p0 p1
                        simp only [Int.toNat_natCast] at p0 p1
                        have hmi : (m : Int) < (j : Int) := by omega
                        have hmi2 : (m : Int) < (ks.length : Int) := by omega
                        have hm0 : (0 : Int) ≤ (m : Int) := by omega
                        clear hrd
                        by_cases hge : y ≤ ks[m].f0
                        · have hst := rGo_stop E1.out (.inr (.inr ⟨ks[m], by rw [List.mem_take_iff_getElem]; exact ⟨m, by omega, rfl⟩, .inl hge⟩))
                          have hz : rCode xs nx ks cls = 144 := hco.out.trans hst
                          generalize ks[m].f0 = ym at *
                          go_wp2_with fail
                          go_region
                          go_wp2_with fail
                          go_ret
                          exact ⟨by rw [hz]; rfl, by repeat (first | exact B9 | apply Below.drew)⟩
                        · have hdec : decide (y ≤ ks[m].f0) = false := decide_eq_false hge
                          by_cases hoo : ks[m].f1.f0 = o
                          · have hst := rGo_stop E1.out (.inr (.inr ⟨ks[m], by rw [List.mem_take_iff_getElem]; exact ⟨m, by omega, rfl⟩, .inr hoo⟩))
                            have hz : rCode xs nx ks cls = 144 := hco.out.trans hst
                            rw [hoo] at p1
                            generalize ks[m].f0 = ym at *
                            go_wp2_with fail
                            go_region
                            go_wp2_with fail
                            go_ret
                            exact ⟨by rw [hz]; rfl, by repeat (first | exact B9 | apply Below.drew)⟩
                          · have hnext := Lib.hid (show ∀ z ∈ ks.take (m + 1), ¬ (y ≤ z.f0 ∨ z.f1.f0 = o) from by
                              intro z hz
                              rw [List.take_succ_eq_append_getElem hmx] at hz
                              rcases List.mem_append.1 hz with hz | hz
                              · exact hno z hz
                              · simp only [List.mem_singleton] at hz
                                subst hz
                                exact fun a => a.elim hge hoo)
                            have hof : (ks[m].f1.f0 == o) = false := by simpa using hoo
                            generalize ks[m].f0 = ym at *
                            generalize ks[m].f1.f0 = om at *
                            go_wp2_with fail
                            go_region
                            go_wp2_with fail
                            go_roundg (gk - 1)
                            case measure => omega
                            case rel => exact ⟨m + 1, by simp, Lib.hid ⟨⟨by omega, by omega⟩, hnext.out, by repeat (first | exact B9 | apply Below.drew), hL, hb9⟩⟩
                      · have hmj : m = j := by omega
                        have hmjx : ¬ ((m : Int) < (j : Int)) := by omega
                        have hon := Lib.hid (rGo_on E1.out (by
                          unfold rBad
                          rintro (a | a | ⟨z, hz, a⟩)
                          · exact absurd (show y < 1 from a) (by omega)
                          · simp only [mapOk, val43, szOk, z3, z4, z5, Bool.true_and, Bool.and_true, decide_true, decide_eq_false_iff_not] at a
                            exact a (by omega)
                          · exact hno z (by rw [hmj]; exact hz) a) T1.out)
                        go_wp2_with fail
                        go_roundg (gko - 1)
                        case measure => omega
                        case rel => exact ⟨j + 1, by simp, Lib.hid ⟨⟨by omega, by omega⟩, B9, hb9, hon.out⟩⟩
                  · have hst := rGo_stop E1.out (.inr (.inl (by simp [mapOk, szOk, z5])))
                    have hz : rCode xs nx ks cls = 144 := hco.out.trans hst
                    have z6 : ((sizeOf' cls o).1 != 64) = true := by simpa using z5
                    go_wp2_with fail
                    go_ret
                    exact ⟨by rw [hz]; rfl, B9.out⟩
                · have hst := rGo_stop E1.out (.inr (.inl (by simp [mapOk, szOk, z4])))
                  have hz : rCode xs nx ks cls = 144 := hco.out.trans hst
                  have z6 : ((sizeOf' cls o).2 == 0) = false := by simpa using z4
                  go_wp2_with fail
                  go_ret
                  exact ⟨by rw [hz]; rfl, B9.out⟩
        · have hj' : j = ks.length := by omega
          subst hj'
          rw [List.drop_length] at E
          have hz : rCode xs nx ks cls = 0 := hco.out.trans E
          go_wp2_with fail
          go_ret
          exact ⟨by rw [hz]; rfl, BB⟩
  · have hco : rCode xs nx ks cls = oCode xs := by unfold rCode; rw [if_pos no]
    have hno : (oCode xs == 0) = false := by simpa using no
    go_wp2_with fail
    go_ret
    exact ⟨by rw [hco]; rfl, B0.out⟩
end Go.Proofs.Ytccblcnjeekhbaa
