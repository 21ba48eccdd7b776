/- larderref03.Parse, walked. -/
import Derived.Test.YtccblcnjeekhbaaGc
import Derived.BigRegion
import Derived.StillTailTactics
namespace Go.Proofs.Ytccblcnjeekhbaa
open Go.RowKit Go.Proofs.Ytccblcnjeekhbaa.PStoreHolds
set_option linter.unusedVariables false
set_option linter.unusedSimpArgs false

theorem Flds.turn {w w' : World} {b : Nat} {k e ka ea c : Int} (h : Flds w b k e ka ea c) (T : Turn (fun _ => False) w w') : Flds w' b k e ka ea c :=
  ⟨T.cell h.h0 (fun h => h), T.cell h.h1 (fun h => h), T.cell h.h2 (fun h => h), T.cell h.h3 (fun h => h), T.cell h.h4 (fun h => h)⟩
def Pushed1 (w : World) (A : Obj) (v : Value) (e : Ending) (w' : World) : Prop :=
  e = .returned v ∧ ∃ w1, w' = w1.alloc A ∧ w1.heap.size = w.heap.size ∧ Turn (fun _ => False) w w1
theorem push1 {f : Nat} {args : Array Value} {v : Value} (h : ∀ w, Calls Try.prog f args w fun e w' => e = .returned v ∧ ∃ k, w' = w.drewN k) (w W : World) (A : Obj) (n : Nat) (hW : W = (w.alloc A).drewN n) : Calls Try.prog f args W (Pushed1 w A v) := by
  subst hW
  refine (h _).mono ?_
  rintro e w' ⟨rfl, k, rfl⟩
  exact ⟨rfl, (w.drewN n).drewN k, rfl, rfl, ((Turn.refl _ w).drewN n).drewN k⟩
theorem push10 {f : Nat} {args : Array Value} {v : Value} (h : ∀ w, Calls Try.prog f args w fun e w' => e = .returned v ∧ ∃ k, w' = w.drewN k) (w : World) (A : Obj) : Calls Try.prog f args (w.alloc A) (Pushed1 w A v) := push1 h w _ A 0 rfl
set_option maxRecDepth 100000 in
set_option maxHeartbeats 16000000 in
theorem rparse_aux (wo w : World) (T : Turn (fun _ => False) wo w) (b : Nat) (k e ka ea c : Int) (FL : Flds w b k e ka ea c) : Calls Try.prog 36 #[.slice (some ⟨b, 0, none⟩) 5 5] w (ParsePost wo k e ka ea c) := by
  have OK := Lib.hid (show okL k e ka ea c = (decide (1 ≤ k ∧ k ≤ 128) && (decide (0 ≤ e ∧ e ≤ 128) && (alB k ka && (alB e ea && capB c)))) from rfl)
  obtain ⟨x0, x1, x2, x3, x4⟩ := FL.alloc (.cells lz 43)
  obtain ⟨y0, y1, y2, y3, y4⟩ := (FL.alloc (.cells lz 43)).alloc (.cells lz 43)
  unfold lz at x0 x1 x2 x3 x4 y0 y1 y2 y3 y4
  go_enter Try.func36, Try.ntmps36
  by_cases hk : 1 ≤ k ∧ k ≤ 128
  · obtain ⟨hk1, hk2⟩ := hk
    by_cases he : 0 ≤ e ∧ e ≤ 128
    · obtain ⟨he1, he2⟩ := he
      cases ha : alB k ka with
      | false =>
        have hno := Lib.hid (show okL k e ka ea c = false by rw [OK.out, ha]; simp)
        have hc := Lib.hid (rfits_call ha (by omega) (by omega))
        cases hb : alB e ea with
        | false =>
          have hc2 := Lib.hid (rfits_call hb (by omega) (by omega))
          clear ha hb
          go_wp2_with fail
          (refine wp_region_still_tail 6 (by kernel_rfl) (by kernel_rfl) ?_; simp only [List.take_succ_cons, List.take_zero, List.drop_succ_cons, List.drop_zero]; change wpStill _ _ (World.drew _) (fun a' => wpList _ _ _ _ a' (World.drew _)) _ _)
          repeat still_step
          refine wpStill_nil ?_
          go_wp2_with fail
          first | refine (push1 hc.out w _ _ 1 rfl).mono ?_ | refine (push10 hc.out w _).mono ?_
          rintro en W1 ⟨rfl, w1, rfl, hs, T1⟩
          rw [← hs]
          replace T := T.then T1 (fun _ h => h.elim)
          replace FL := FL.turn T1
          clear x0 x1 x2 x3 x4 y0 y1 y2 y3 y4
          obtain ⟨x0, x1, x2, x3, x4⟩ := FL.alloc (.cells lz 43)
          obtain ⟨y0, y1, y2, y3, y4⟩ := (FL.alloc (.cells lz 43)).alloc (.cells lz 43)
          unfold lz at x0 x1 x2 x3 x4 y0 y1 y2 y3 y4
          clear hs T1
          go_wp2_with fail
          (refine wp_region_still_tail 6 (by kernel_rfl) (by kernel_rfl) ?_; simp only [List.take_succ_cons, List.take_zero, List.drop_succ_cons, List.drop_zero]; change wpStill _ _ (World.drew _) (fun a' => wpList _ _ _ _ a' (World.drew _)) _ _)
          repeat still_step
          refine wpStill_nil ?_
          go_wp2_with fail
          first | refine (push1 hc2.out w1 _ _ 1 rfl).mono ?_ | refine (push10 hc2.out w1 _).mono ?_
          rintro en W1 ⟨rfl, w2, rfl, hs, T1⟩
          rw [← hs]
          replace T := T.then T1 (fun _ h => h.elim)
          replace FL := FL.turn T1
          clear x0 x1 x2 x3 x4 y0 y1 y2 y3 y4
          obtain ⟨x0, x1, x2, x3, x4⟩ := FL.alloc (.cells lz 43)
          obtain ⟨y0, y1, y2, y3, y4⟩ := (FL.alloc (.cells lz 43)).alloc (.cells lz 43)
          unfold lz at x0 x1 x2 x3 x4 y0 y1 y2 y3 y4
          clear hs T1
          go_wp2_with fail
          refine bodyPost_ret (v := .tuple #[.agg lz, .int .i64 33]) (by simp [results, Try.results36, go_sem]) rfl (parse_no hno.out (by decide) ?_)
          repeat (first | exact T | apply Turn.drewN | apply Turn.drew | apply Turn.alloc)
        | true =>
          have hc2 := Lib.hid (rfits_call hb (by omega) (by omega))
          clear ha hb
          go_wp2_with fail
          (refine wp_region_still_tail 6 (by kernel_rfl) (by kernel_rfl) ?_; simp only [List.take_succ_cons, List.take_zero, List.drop_succ_cons, List.drop_zero]; change wpStill _ _ (World.drew _) (fun a' => wpList _ _ _ _ a' (World.drew _)) _ _)
          repeat still_step
          refine wpStill_nil ?_
          go_wp2_with fail
          first | refine (push1 hc.out w _ _ 1 rfl).mono ?_ | refine (push10 hc.out w _).mono ?_
          rintro en W1 ⟨rfl, w1, rfl, hs, T1⟩
          rw [← hs]
          replace T := T.then T1 (fun _ h => h.elim)
          replace FL := FL.turn T1
          clear x0 x1 x2 x3 x4 y0 y1 y2 y3 y4
          obtain ⟨x0, x1, x2, x3, x4⟩ := FL.alloc (.cells lz 43)
          obtain ⟨y0, y1, y2, y3, y4⟩ := (FL.alloc (.cells lz 43)).alloc (.cells lz 43)
          unfold lz at x0 x1 x2 x3 x4 y0 y1 y2 y3 y4
          clear hs T1
          go_wp2_with fail
          (refine wp_region_still_tail 6 (by kernel_rfl) (by kernel_rfl) ?_; simp only [List.take_succ_cons, List.take_zero, List.drop_succ_cons, List.drop_zero]; change wpStill _ _ (World.drew _) (fun a' => wpList _ _ _ _ a' (World.drew _)) _ _)
          repeat still_step
          refine wpStill_nil ?_
          go_wp2_with fail
          first | refine (push1 hc2.out w1 _ _ 1 rfl).mono ?_ | refine (push10 hc2.out w1 _).mono ?_
          rintro en W1 ⟨rfl, w2, rfl, hs, T1⟩
          rw [← hs]
          replace T := T.then T1 (fun _ h => h.elim)
          replace FL := FL.turn T1
          clear x0 x1 x2 x3 x4 y0 y1 y2 y3 y4
          obtain ⟨x0, x1, x2, x3, x4⟩ := FL.alloc (.cells lz 43)
          obtain ⟨y0, y1, y2, y3, y4⟩ := (FL.alloc (.cells lz 43)).alloc (.cells lz 43)
          unfold lz at x0 x1 x2 x3 x4 y0 y1 y2 y3 y4
          clear hs T1
          go_wp2_with fail
          refine bodyPost_ret (v := .tuple #[.agg lz, .int .i64 33]) (by simp [results, Try.results36, go_sem]) rfl (parse_no hno.out (by decide) ?_)
          repeat (first | exact T | apply Turn.drewN | apply Turn.drew | apply Turn.alloc)
      | true =>
        have hc := Lib.hid (rfits_call ha (by omega) (by omega))
        cases hb : alB e ea with
        | false =>
          have hno := Lib.hid (show okL k e ka ea c = false by rw [OK.out, hb]; simp)
          have hc2 := Lib.hid (rfits_call hb (by omega) (by omega))
          clear ha hb
          go_wp2_with fail
          (refine wp_region_still_tail 6 (by kernel_rfl) (by kernel_rfl) ?_; simp only [List.take_succ_cons, List.take_zero, List.drop_succ_cons, List.drop_zero]; change wpStill _ _ (World.drew _) (fun a' => wpList _ _ _ _ a' (World.drew _)) _ _)
          repeat still_step
          refine wpStill_nil ?_
          go_wp2_with fail
          first | refine (push1 hc.out w _ _ 1 rfl).mono ?_ | refine (push10 hc.out w _).mono ?_
          rintro en W1 ⟨rfl, w1, rfl, hs, T1⟩
          rw [← hs]
          replace T := T.then T1 (fun _ h => h.elim)
          replace FL := FL.turn T1
          clear x0 x1 x2 x3 x4 y0 y1 y2 y3 y4
          obtain ⟨x0, x1, x2, x3, x4⟩ := FL.alloc (.cells lz 43)
          obtain ⟨y0, y1, y2, y3, y4⟩ := (FL.alloc (.cells lz 43)).alloc (.cells lz 43)
          unfold lz at x0 x1 x2 x3 x4 y0 y1 y2 y3 y4
          clear hs T1
          go_wp2_with fail
          (refine wp_region_still_tail 6 (by kernel_rfl) (by kernel_rfl) ?_; simp only [List.take_succ_cons, List.take_zero, List.drop_succ_cons, List.drop_zero]; change wpStill _ _ (World.drew _) (fun a' => wpList _ _ _ _ a' (World.drew _)) _ _)
          repeat still_step
          refine wpStill_nil ?_
          go_wp2_with fail
          first | refine (push1 hc2.out w1 _ _ 1 rfl).mono ?_ | refine (push10 hc2.out w1 _).mono ?_
          rintro en W1 ⟨rfl, w2, rfl, hs, T1⟩
          rw [← hs]
          replace T := T.then T1 (fun _ h => h.elim)
          replace FL := FL.turn T1
          clear x0 x1 x2 x3 x4 y0 y1 y2 y3 y4
          obtain ⟨x0, x1, x2, x3, x4⟩ := FL.alloc (.cells lz 43)
          obtain ⟨y0, y1, y2, y3, y4⟩ := (FL.alloc (.cells lz 43)).alloc (.cells lz 43)
          unfold lz at x0 x1 x2 x3 x4 y0 y1 y2 y3 y4
          clear hs T1
          go_wp2_with fail
          refine bodyPost_ret (v := .tuple #[.agg lz, .int .i64 33]) (by simp [results, Try.results36, go_sem]) rfl (parse_no hno.out (by decide) ?_)
          repeat (first | exact T | apply Turn.drewN | apply Turn.drew | apply Turn.alloc)
        | true =>
          have hc2 := Lib.hid (rfits_call hb (by omega) (by omega))
          cases hp : capB c with
          | false =>
            have hno := Lib.hid (show okL k e ka ea c = false by rw [OK.out, hp]; simp)
            have hc3 := Lib.hid (rcap_call hp)
            clear ha hb hp
            go_wp2_with fail
            (refine wp_region_still_tail 6 (by kernel_rfl) (by kernel_rfl) ?_; simp only [List.take_succ_cons, List.take_zero, List.drop_succ_cons, List.drop_zero]; change wpStill _ _ (World.drew _) (fun a' => wpList _ _ _ _ a' (World.drew _)) _ _)
            repeat still_step
            refine wpStill_nil ?_
            go_wp2_with fail
            first | refine (push1 hc.out w _ _ 1 rfl).mono ?_ | refine (push10 hc.out w _).mono ?_
            rintro en W1 ⟨rfl, w1, rfl, hs, T1⟩
            rw [← hs]
            replace T := T.then T1 (fun _ h => h.elim)
            replace FL := FL.turn T1
            clear x0 x1 x2 x3 x4 y0 y1 y2 y3 y4
            obtain ⟨x0, x1, x2, x3, x4⟩ := FL.alloc (.cells lz 43)
            obtain ⟨y0, y1, y2, y3, y4⟩ := (FL.alloc (.cells lz 43)).alloc (.cells lz 43)
            unfold lz at x0 x1 x2 x3 x4 y0 y1 y2 y3 y4
            clear hs T1
            go_wp2_with fail
            (refine wp_region_still_tail 6 (by kernel_rfl) (by kernel_rfl) ?_; simp only [List.take_succ_cons, List.take_zero, List.drop_succ_cons, List.drop_zero]; change wpStill _ _ (World.drew _) (fun a' => wpList _ _ _ _ a' (World.drew _)) _ _)
            repeat still_step
            refine wpStill_nil ?_
            go_wp2_with fail
            first | refine (push1 hc2.out w1 _ _ 1 rfl).mono ?_ | refine (push10 hc2.out w1 _).mono ?_
            rintro en W1 ⟨rfl, w2, rfl, hs, T1⟩
            rw [← hs]
            replace T := T.then T1 (fun _ h => h.elim)
            replace FL := FL.turn T1
            clear x0 x1 x2 x3 x4 y0 y1 y2 y3 y4
            obtain ⟨x0, x1, x2, x3, x4⟩ := FL.alloc (.cells lz 43)
            obtain ⟨y0, y1, y2, y3, y4⟩ := (FL.alloc (.cells lz 43)).alloc (.cells lz 43)
            unfold lz at x0 x1 x2 x3 x4 y0 y1 y2 y3 y4
            clear hs T1
            go_wp2_with fail
            first | refine (push1 hc3.out w2 _ _ 1 rfl).mono ?_ | refine (push10 hc3.out w2 _).mono ?_
            rintro en W1 ⟨rfl, w3, rfl, hs, T1⟩
            rw [← hs]
            replace T := T.then T1 (fun _ h => h.elim)
            replace FL := FL.turn T1
            clear x0 x1 x2 x3 x4 y0 y1 y2 y3 y4
            obtain ⟨x0, x1, x2, x3, x4⟩ := FL.alloc (.cells lz 43)
            obtain ⟨y0, y1, y2, y3, y4⟩ := (FL.alloc (.cells lz 43)).alloc (.cells lz 43)
            unfold lz at x0 x1 x2 x3 x4 y0 y1 y2 y3 y4
            clear hs T1
            go_wp2_with fail
            refine bodyPost_ret (v := .tuple #[.agg lz, .int .i64 34]) (by simp [results, Try.results36, go_sem]) rfl (parse_no hno.out (by decide) ?_)
            repeat (first | exact T | apply Turn.drewN | apply Turn.drew | apply Turn.alloc)
          | true =>
            have hyes := Lib.hid (show okL k e ka ea c = true by rw [OK.out, ha, hb, hp]; simp; omega)
            have hc3 := Lib.hid (rcap_call hp)
            have h8 : pow8 ea = true := by unfold alB at hb; simp only [Bool.and_eq_true] at hb; exact hb.1
            have d1 := raise_bd k ea (by omega) h8
            have d2 := raise_bd (raiseI k ea + e) 8 (by omega) rfl
            have r1 := Lib.hid (fun w => rraise_call k ea (by omega) (by omega) h8 w)
            have r2 := Lib.hid (fun w => rraise_call (raiseI k ea + e) 8 (by omega) (by omega) rfl w)
            have FIN : Hid (∀ w', Turn (fun _ => False) wo w' → ParsePost wo k e ka ea c (.returned (.tuple #[layV k e ka ea c, .int .i64 0])) w') := Lib.hid (fun w' T => ⟨.inl ⟨hyes.out, rfl⟩, T⟩)
            unfold layV eoI boI at FIN
            clear ha hb hp h8
            generalize raiseI (raiseI k ea + e) 8 = bo at *
            generalize raiseI k ea = eo at *
            obtain ⟨d3, d4⟩ := d1
            obtain ⟨d5, d6⟩ := d2
            go_wp2_with fail
            (refine wp_region_still_tail 6 (by kernel_rfl) (by kernel_rfl) ?_; simp only [List.take_succ_cons, List.take_zero, List.drop_succ_cons, List.drop_zero]; change wpStill _ _ (World.drew _) (fun a' => wpList _ _ _ _ a' (World.drew _)) _ _)
            repeat still_step
            refine wpStill_nil ?_
            go_wp2_with fail
            first | refine (push1 hc.out w _ _ 1 rfl).mono ?_ | refine (push10 hc.out w _).mono ?_
            rintro en W1 ⟨rfl, w1, rfl, hs, T1⟩
            rw [← hs]
            replace T := T.then T1 (fun _ h => h.elim)
            replace FL := FL.turn T1
            clear x0 x1 x2 x3 x4 y0 y1 y2 y3 y4
            obtain ⟨x0, x1, x2, x3, x4⟩ := FL.alloc (.cells lz 43)
            obtain ⟨y0, y1, y2, y3, y4⟩ := (FL.alloc (.cells lz 43)).alloc (.cells lz 43)
            unfold lz at x0 x1 x2 x3 x4 y0 y1 y2 y3 y4
            clear hs T1
            go_wp2_with fail
            (refine wp_region_still_tail 6 (by kernel_rfl) (by kernel_rfl) ?_; simp only [List.take_succ_cons, List.take_zero, List.drop_succ_cons, List.drop_zero]; change wpStill _ _ (World.drew _) (fun a' => wpList _ _ _ _ a' (World.drew _)) _ _)
            repeat still_step
            refine wpStill_nil ?_
            go_wp2_with fail
            first | refine (push1 hc2.out w1 _ _ 1 rfl).mono ?_ | refine (push10 hc2.out w1 _).mono ?_
            rintro en W1 ⟨rfl, w2, rfl, hs, T1⟩
            rw [← hs]
            replace T := T.then T1 (fun _ h => h.elim)
            replace FL := FL.turn T1
            clear x0 x1 x2 x3 x4 y0 y1 y2 y3 y4
            obtain ⟨x0, x1, x2, x3, x4⟩ := FL.alloc (.cells lz 43)
            obtain ⟨y0, y1, y2, y3, y4⟩ := (FL.alloc (.cells lz 43)).alloc (.cells lz 43)
            unfold lz at x0 x1 x2 x3 x4 y0 y1 y2 y3 y4
            clear hs T1
            go_wp2_with fail
            first | refine (push1 hc3.out w2 _ _ 1 rfl).mono ?_ | refine (push10 hc3.out w2 _).mono ?_
            rintro en W1 ⟨rfl, w3, rfl, hs, T1⟩
            rw [← hs]
            replace T := T.then T1 (fun _ h => h.elim)
            replace FL := FL.turn T1
            clear x0 x1 x2 x3 x4 y0 y1 y2 y3 y4
            obtain ⟨x0, x1, x2, x3, x4⟩ := FL.alloc (.cells lz 43)
            obtain ⟨y0, y1, y2, y3, y4⟩ := (FL.alloc (.cells lz 43)).alloc (.cells lz 43)
            unfold lz at x0 x1 x2 x3 x4 y0 y1 y2 y3 y4
            clear hs T1
            go_wp2_with fail
            go_region
            clear x0 x1 x2 x3 x4 y0 y1 y2 y3 y4 FL
            go_wp2_with fail
            first | refine (push r1.out w3 _ _ _ _ rfl).mono ?_ | refine (push0 r1.out w3 _ _).mono ?_
            rintro en W1 ⟨rfl, w4, rfl, hs, T1⟩
            rw [← hs]
            replace T := T.then T1 (fun _ h => h.elim)
            clear hs T1
            go_wp2_with fail
            first | refine (push r2.out w4 _ _ _ _ rfl).mono ?_ | refine (push0 r2.out w4 _ _).mono ?_
            rintro en W1 ⟨rfl, w5, rfl, hs, T1⟩
            rw [← hs]
            replace T := T.then T1 (fun _ h => h.elim)
            clear hs T1
            go_wp2_with fail
            refine wp_loop_rounds 9 ?_
            rw [rounds_succ]
            go_wp2_with fail
            rw [rounds_succ]
            go_wp2_with fail
            rw [rounds_succ]
            go_wp2_with fail
            rw [rounds_succ]
            go_wp2_with fail
            rw [rounds_succ]
            go_wp2_with fail
            rw [rounds_succ]
            go_wp2_with fail
            rw [rounds_succ]
            go_wp2_with fail
            rw [rounds_succ]
            go_wp2_with fail
            rw [rounds_succ]
            go_wp2_with fail
            refine bodyPost_ret (v := .tuple #[.agg #[.int .i64 k, .int .i64 e, .int .i64 ka, .int .i64 ea, .int .i64 c, .int .i64 eo, .int .i64 bo, .int .i64 (bo + 8), .int .i64 (8 + (bo + 8) + (bo + 8) + (bo + 8) + (bo + 8) + (bo + 8) + (bo + 8) + (bo + 8) + (bo + 8))], .int .i64 0]) (by simp [results, Try.results36, go_sem]) rfl ?_
            rw [show 8 + (bo + 8) + (bo + 8) + (bo + 8) + (bo + 8) + (bo + 8) + (bo + 8) + (bo + 8) + (bo + 8) = 8 + 8 * (bo + 8) by omega]
            exact FIN.out _ ((T.alloc _).alloc _)
    · have hno := Lib.hid (show okL k e ka ea c = false by rw [OK.out, decide_eq_false he]; simp)
      have he' : e < 0 ∨ 128 < e := by omega
      clear he
      rcases he' with he | he
      all_goals
        go_wp2_with fail
        refine bodyPost_ret (v := .tuple #[.agg lz, .int .i64 32]) (by simp [results, Try.results36, go_sem]) rfl (parse_no hno.out (by decide) ?_)
        repeat (first | exact T | apply Turn.drewN | apply Turn.drew | apply Turn.alloc)
  · have hno := Lib.hid (show okL k e ka ea c = false by rw [OK.out, decide_eq_false hk]; simp)
    have hk' : k < 1 ∨ 128 < k := by omega
    clear hk
    rcases hk' with hk | hk
    all_goals
      go_wp2_with fail
      refine bodyPost_ret (v := .tuple #[.agg lz, .int .i64 31]) (by simp [results, Try.results36, go_sem]) rfl (parse_no hno.out (by decide) ?_)
      repeat (first | exact T | apply Turn.drewN | apply Turn.drew | apply Turn.alloc)

theorem rparse_call (w : World) (b : Nat) (k e ka ea c : Int) (h : Flds w b k e ka ea c) : Calls Try.prog 36 #[.slice (some ⟨b, 0, none⟩) 5 5] w (ParsePost w k e ka ea c) := rparse_aux w w (Turn.refl _ w) b k e ka ea c h
end Go.Proofs.Ytccblcnjeekhbaa
/- larderref03.Valid, walked. -/
namespace Go.Proofs.Ytccblcnjeekhbaa
open Go.RowKit Go.Proofs.Ytccblcnjeekhbaa.PStoreHolds
set_option linter.unusedVariables false
set_option linter.unusedSimpArgs false
attribute [local go_sem high] eqA43

set_option maxRecDepth 100000 in
set_option maxHeartbeats 16000000 in
theorem rvalid_call (w : World) (f0 f1 f2 f3 f4 f5 f6 f7 f8 : Int) : Calls Try.prog 23 #[layO f0 f1 f2 f3 f4 f5 f6 f7 f8] w fun en w' => en = .returned (.bool (valB f0 f1 f2 f3 f4 f5 f6 f7 f8)) ∧ Turn (fun _ => False) w w' := by
  unfold layO
  go_enter Try.func23, Try.ntmps23
  go_wp2_with fail
  refine (rparse_call _ _ f0 f1 f2 f3 f4 ?_).mono ?_
  · rw [← size_a]
    exact Flds.of
  rintro en W1 ⟨P, T⟩
  have T0 : Turn (fun _ => False) w W1 := (((Turn.refl _ w).alloc _).alloc _).then T (fun _ h => h.elim)
  have B0 := T.heap (alloc2_get w _ _) (fun h => h)
  clear T
  generalize w.heap.size = R at *
  rcases P with ⟨ok, rfl⟩ | ⟨no, r, hr, rfl⟩
  · unfold layV
    have z0 := cell_of (v := .int .i64 f0) (i := 0) (alloc_old B0 (.cells #[.int .i64 f0, .int .i64 f1, .int .i64 f2, .int .i64 f3, .int .i64 f4, .int .i64 (eoI f0 f3), .int .i64 (boI f0 f1 f3), .int .i64 (boI f0 f1 f3 + 8), .int .i64 (8 + 8 * (boI f0 f1 f3 + 8))] 43)) rfl
    have z1 := cell_of (v := .int .i64 f1) (i := 1) (alloc_old B0 (.cells #[.int .i64 f0, .int .i64 f1, .int .i64 f2, .int .i64 f3, .int .i64 f4, .int .i64 (eoI f0 f3), .int .i64 (boI f0 f1 f3), .int .i64 (boI f0 f1 f3 + 8), .int .i64 (8 + 8 * (boI f0 f1 f3 + 8))] 43)) rfl
    have z2 := cell_of (v := .int .i64 f2) (i := 2) (alloc_old B0 (.cells #[.int .i64 f0, .int .i64 f1, .int .i64 f2, .int .i64 f3, .int .i64 f4, .int .i64 (eoI f0 f3), .int .i64 (boI f0 f1 f3), .int .i64 (boI f0 f1 f3 + 8), .int .i64 (8 + 8 * (boI f0 f1 f3 + 8))] 43)) rfl
    have z3 := cell_of (v := .int .i64 f3) (i := 3) (alloc_old B0 (.cells #[.int .i64 f0, .int .i64 f1, .int .i64 f2, .int .i64 f3, .int .i64 f4, .int .i64 (eoI f0 f3), .int .i64 (boI f0 f1 f3), .int .i64 (boI f0 f1 f3 + 8), .int .i64 (8 + 8 * (boI f0 f1 f3 + 8))] 43)) rfl
    have z4 := cell_of (v := .int .i64 f4) (i := 4) (alloc_old B0 (.cells #[.int .i64 f0, .int .i64 f1, .int .i64 f2, .int .i64 f3, .int .i64 f4, .int .i64 (eoI f0 f3), .int .i64 (boI f0 f1 f3), .int .i64 (boI f0 f1 f3 + 8), .int .i64 (8 + 8 * (boI f0 f1 f3 + 8))] 43)) rfl
    have z5 := cell_of (v := .int .i64 f5) (i := 5) (alloc_old B0 (.cells #[.int .i64 f0, .int .i64 f1, .int .i64 f2, .int .i64 f3, .int .i64 f4, .int .i64 (eoI f0 f3), .int .i64 (boI f0 f1 f3), .int .i64 (boI f0 f1 f3 + 8), .int .i64 (8 + 8 * (boI f0 f1 f3 + 8))] 43)) rfl
    have z6 := cell_of (v := .int .i64 f6) (i := 6) (alloc_old B0 (.cells #[.int .i64 f0, .int .i64 f1, .int .i64 f2, .int .i64 f3, .int .i64 f4, .int .i64 (eoI f0 f3), .int .i64 (boI f0 f1 f3), .int .i64 (boI f0 f1 f3 + 8), .int .i64 (8 + 8 * (boI f0 f1 f3 + 8))] 43)) rfl
    have z7 := cell_of (v := .int .i64 f7) (i := 7) (alloc_old B0 (.cells #[.int .i64 f0, .int .i64 f1, .int .i64 f2, .int .i64 f3, .int .i64 f4, .int .i64 (eoI f0 f3), .int .i64 (boI f0 f1 f3), .int .i64 (boI f0 f1 f3 + 8), .int .i64 (8 + 8 * (boI f0 f1 f3 + 8))] 43)) rfl
    have z8 := cell_of (v := .int .i64 f8) (i := 8) (alloc_old B0 (.cells #[.int .i64 f0, .int .i64 f1, .int .i64 f2, .int .i64 f3, .int .i64 f4, .int .i64 (eoI f0 f3), .int .i64 (boI f0 f1 f3), .int .i64 (boI f0 f1 f3 + 8), .int .i64 (8 + 8 * (boI f0 f1 f3 + 8))] 43)) rfl
    go_wp2_with fail
    exact bodyPost_ret (v := .bool (eoI f0 f3 == f5 && (boI f0 f1 f3 == f6 && (boI f0 f1 f3 + 8 == f7 && 8 + 8 * (boI f0 f1 f3 + 8) == f8)))) (by simp [results, Try.results23, go_sem]) rfl ⟨by unfold valB; rw [ok]; rfl, T0.alloc _⟩
  · have hr0 : (r == 0) = false := by simpa using hr
    go_wp2_with fail
    exact bodyPost_ret (v := .bool false) (by simp [results, Try.results23, go_sem]) rfl ⟨by unfold valB; rw [no]; rfl, T0.alloc _⟩
end Go.Proofs.Ytccblcnjeekhbaa
