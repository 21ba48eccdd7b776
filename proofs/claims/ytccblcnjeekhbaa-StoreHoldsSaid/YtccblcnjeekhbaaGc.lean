/- Package layout: power, aligned, raise: plain values, and the calls. -/
import Derived.Test.YtccblcnjeekhbaaGa
import Derived.Test.YtccblcnjeekhbaaPStoreHoldsx0
import Derived.Test.YtccblcnjeekhbaaPStoreHoldsx2
import Derived.Test.YtccblcnjeekhbaaPStoreHoldsx4
import Derived.BigRegion
namespace Go.Proofs.Ytccblcnjeekhbaa
open Go.RowKit Go.Proofs.Ytccblcnjeekhbaa.PStoreHolds
set_option linter.unusedVariables false
set_option linter.unusedSimpArgs false

def pow8 (a : Int) : Bool := a == 1 || a == 2 || a == 4 || a == 8
def capB (c : Int) : Bool := c == 16 || c == 32 || c == 64 || c == 128 || c == 256 || c == 512 || c == 1024
def alB (w a : Int) : Bool := pow8 a && (w % a == 0)
def raiseI (n a : Int) : Int := (n + a - 1) / a * a

theorem pow8_fin : ∀ n : Fin 9, (1 ≤ n.val) → (Go.bits .and .i64 (n.val : Int) ((n.val : Int) - 1) == 0) = pow8 n.val := by decide +kernel
theorem cap_fin : ∀ n : Fin 1025, (16 ≤ n.val) → (Go.bits .and .i64 (n.val : Int) ((n.val : Int) - 1) == 0) = capB n.val := by decide +kernel
theorem pow8_out (a : Int) (h : ¬ (1 ≤ a ∧ a ≤ 8)) : pow8 a = false := by
  unfold pow8
  simp only [Bool.or_eq_false_iff, beq_eq_false_iff_ne]
  omega
theorem capB_out (a : Int) (h : ¬ (16 ≤ a ∧ a ≤ 1024)) : capB a = false := by
  unfold capB
  simp only [Bool.or_eq_false_iff, beq_eq_false_iff_ne]
  omega
theorem power8_f (a : Int) : layout_power.f a 1 8 = some (pow8 a) := by
  unfold layout_power.f
  by_cases h1 : a ≥ 1
  · rw [if_pos h1]
    by_cases h2 : a ≤ 8
    · rw [if_pos h2, wrap_ok (by omega)]
      have := pow8_fin ⟨a.toNat, by omega⟩ (by simp only; omega)
      simp only [show ((a.toNat : Nat) : Int) = a by omega] at this
      rw [this]
    · rw [if_neg h2, pow8_out a (by omega)]
  · rw [if_neg h1, pow8_out a (by omega)]
theorem powerC_f (c : Int) : layout_power.f c 16 1024 = some (capB c) := by
  unfold layout_power.f
  by_cases h1 : c ≥ 16
  · rw [if_pos h1]
    by_cases h2 : c ≤ 1024
    · rw [if_pos h2, wrap_ok (by omega)]
      have := cap_fin ⟨c.toNat, by omega⟩ (by simp only; omega)
      simp only [show ((c.toNat : Nat) : Int) = c by omega] at this
      rw [this]
    · rw [if_neg h2, capB_out c (by omega)]
  · rw [if_neg h1, capB_out c (by omega)]
theorem pow8_pos (a : Int) (h : pow8 a = true) : a = 1 ∨ a = 2 ∨ a = 4 ∨ a = 8 := by
  unfold pow8 at h
  simp only [Bool.or_eq_true, beq_iff_eq] at h
  omega
theorem aligned_f (w a : Int) (hw : 0 ≤ w) : layout_aligned.f w a = some (alB w a) := by
  unfold layout_aligned.f alB
  rw [power8_f, Option.bind_some]
  cases h : pow8 a with
  | false => rw [if_neg (by decide)]; rfl
  | true =>
    have := pow8_pos a h
    rw [if_pos rfl, if_neg (by omega), Int.tmod_eq_emod_of_nonneg hw]; rfl
theorem raise_f (n a : Int) (hn : 0 ≤ n) (hn2 : n ≤ 1000) (ha : pow8 a = true) : layout_raise.f n a = some (raiseI n a) := by
  have := pow8_pos a ha
  unfold layout_raise.f raiseI
  rw [if_neg (by omega), wrap_ok (x := n + a) (by omega), wrap_ok (x := n + a - 1) (by omega), Int.tdiv_eq_ediv_of_nonneg (by omega)]
  rcases this with rfl | rfl | rfl | rfl
  · rw [wrap_ok (x := (n + 1 - 1) / 1) (by omega), wrap_ok (by omega)]
  · rw [wrap_ok (x := (n + 2 - 1) / 2) (by omega), wrap_ok (by omega)]
  · rw [wrap_ok (x := (n + 4 - 1) / 4) (by omega), wrap_ok (by omega)]
  · rw [wrap_ok (x := (n + 8 - 1) / 8) (by omega), wrap_ok (by omega)]
theorem aligned_call (x a : Int) (hx : 0 ≤ x) (w : World) : Calls Try.prog 45 #[.int .i64 x, .int .i64 a] w fun e w' => e = .returned (.bool (alB x a)) ∧ ∃ k, w' = w.drewN k :=
  (layout_aligned.calls x a _ w (aligned_f x a hx)).mono fun e w' h => ⟨h.1, h.2.out⟩
theorem cap_call (c : Int) (w : World) : Calls Try.prog 46 #[.int .i64 c, .int .i64 16, .int .i64 1024] w fun e w' => e = .returned (.bool (capB c)) ∧ ∃ k, w' = w.drewN k :=
  (layout_power.calls c 16 1024 _ w (powerC_f c)).mono fun e w' h => ⟨h.1, h.2.out⟩
theorem raise_call (n a : Int) (hn : 0 ≤ n) (hn2 : n ≤ 1000) (ha : pow8 a = true) (w : World) : Calls Try.prog 47 #[.int .i64 n, .int .i64 a] w fun e w' => e = .returned (.int .i64 (raiseI n a)) ∧ ∃ k, w' = w.drewN k :=
  (layout_raise.calls n a _ w (raise_f n a hn hn2 ha)).mono fun e w' h => ⟨h.1, h.2.out⟩
end Go.Proofs.Ytccblcnjeekhbaa
/- larderref03.power, raised, fits (functions 49, 50, 48): began as printed text. -/
namespace Go.Proofs.Ytccblcnjeekhbaa.PStoreHolds
open Go.RowKit Go.Proofs.YtccblcnjeekhbaaW.PrintWords Go.Proofs.YtccblcnjeekhbaaW.PrintLast Go.Proofs.YtccblcnjeekhbaaW.PrintMore
attribute [local go_sem] max2_int min2_int max_two min_two max_three min_three max_four min_four   -- for this text's walks alone
set_option linter.unusedVariables false
set_option linter.unusedSimpArgs false

attribute [local go_sem high] eqA43
/-! ### layout_Valid: function 19 -/
/-! ### larderref03_power: function 49 -/
def larderref03_power.l0 : Nat → Int → Int → Int → Option (Bool)
  | 0, _, _, _ => none
  | k + 1, x0, x2, x7 => if x7 ≤ x2 then (if x7 = x0 then (some true) else (larderref03_power.l0 k x0 x2 (wrap64 (2 * x7)))) else (some false)
def larderref03_power.f (k : Nat) (a0 : Int) (a1 : Int) (a2 : Int) : Option (Bool) := larderref03_power.l0 k a0 a2 a1
theorem larderref03_power.mono_l : ∀ k, (∀ y0 y1 y2, LeO (larderref03_power.l0 k y0 y1 y2) (larderref03_power.l0 (k + 1) y0 y1 y2))
  | 0 => fun _ _ _ r h => by simp [larderref03_power.l0] at h
  | k + 1 => by
    have ih0 := larderref03_power.mono_l k
    · intro y0 y1 y2
      unfold larderref03_power.l0
      repeat' first
      | (with_reducible exact ih0 _ _ _)
      | (with_reducible exact LeO.refl _)
      | (with_reducible exact LeO.none _)
      | (with_reducible refine LeO.ite ?_ ?_)
      | (with_reducible refine LeO.bind ?_ (fun _ => ?_))
      | exact ih0 _ _ _
      | exact LeO.none _
      | refine LeO.ite ?_ ?_
      | refine LeO.bind ?_ (fun _ => ?_)
theorem larderref03_power.mono : ∀ a0 a1 a2 k, LeO (larderref03_power.f k a0 a1 a2) (larderref03_power.f (k + 1) a0 a1 a2) := by
  intro a0 a1 a2 k
  have ih0 := larderref03_power.mono_l k
  unfold larderref03_power.f
  repeat' first
      | (with_reducible exact ih0 _ _ _)
      | (with_reducible exact LeO.refl _)
      | (with_reducible exact LeO.none _)
      | (with_reducible refine LeO.ite ?_ ?_)
      | (with_reducible refine LeO.bind ?_ (fun _ => ?_))
      | exact ih0 _ _ _
      | exact LeO.none _
      | refine LeO.ite ?_ ?_
      | refine LeO.bind ?_ (fun _ => ?_)
set_option maxHeartbeats 8000000 in
set_option maxRecDepth 100000 in
theorem larderref03_power.calls (k : Nat) (a0 : Int) (a1 : Int) (a2 : Int) (r : Bool) (w : World) (h : larderref03_power.f k a0 a1 a2 = some r) :
    Calls Try.prog 49 #[.int .i64 a0, .int .i64 a1, .int .i64 a2] w fun e w' => e = .returned (.bool r) ∧ Drawn0 w w' := by
  have H : (larderref03_power.l0 k a0 a2 a1) = some r := h
  clear h
  have H' := Aside0.mk H
  clear H
  go_enter Try.func49, Try.ntmps49
  go_wp2
  go_loopg [7] k (fun kq v7 w' => ∃ (x7_1 : Int), v7 = .int .i64 x7_1 ∧ Aside0 (larderref03_power.l0 kq a0 a2 x7_1 = some r) ∧ Aside0 (kq ≤ k) ∧ Drawn0 w w')
  case atStart => exact ⟨(a1), (by first | rfl | (simp; done) | (simp [*]; done)), H', ⟨Nat.le_refl _⟩, by repeat (first | exact Drawn0.refl _ | apply Drawn0.step)⟩
  case round =>
    clear H'
    try clear p2
    obtain ⟨x7_1, rfl, HA, HK1, ⟨m1, rfl⟩⟩ := hrel
    cases gk with
    | zero => exact absurd HA.out (by simp [larderref03_power.l0])
    | succ k1 =>
      have H := HA.out
      clear HA
      simp only [larderref03_power.l0] at H
      by_cases c4 : x7_1 ≤ a2
      · rw [if_pos c4] at H
        have c4b0 : decide (x7_1 ≤ a2) = true := decide_eq_true c4
        clear c4
        by_cases c5 : x7_1 = a0
        · rw [if_pos c5] at H
          have c5b0 : (x7_1 == a0) = true := beq_iff_eq.mpr c5
          have c5b1 : (x7_1 != a0) = false := bne_eq_false_iff_eq.mpr c5
          clear c5
          obtain rfl := Option.some.inj H
          go_wp2
          go_ret
          exact ⟨by first | rfl | (simp; done) | (simp [*]; done), by repeat (first | exact Drawn0.refl _ | apply Drawn0.step)⟩
        · rw [if_neg c5] at H
          have c5b0 : (x7_1 == a0) = false := beq_eq_false_iff_ne.mpr c5
          have c5b1 : (x7_1 != a0) = true := bne_iff_ne.mpr c5
          have H' := Aside0.mk H
          clear H
          go_wp2
          go_roundg k1
          case measure => have := HK1.out; omega
          case rel => exact ⟨(wrap64 (2 * x7_1)), (by first | rfl | (simp; done) | (simp [*]; done)), H', ⟨by have := HK1.out; omega⟩, by repeat (first | exact Drawn0.refl _ | apply Drawn0.step)⟩
      · rw [if_neg c4] at H
        have c4b0 : decide (x7_1 ≤ a2) = false := decide_eq_false c4
        clear c4
        obtain rfl := Option.some.inj H
        go_wp2
        go_ret
        exact ⟨by first | rfl | (simp; done) | (simp [*]; done), by repeat (first | exact Drawn0.refl _ | apply Drawn0.step)⟩

/-! ### larderref03_raised: function 50 -/
def larderref03_raised.l0 : Nat → Int → Int → Int → Option (Int)
  | 0, _, _, _ => none
  | k + 1, x0, x1, x5 => if x5 < x0 then (larderref03_raised.l0 k x0 x1 (wrap64 (x5 + x1))) else (some x5)
def larderref03_raised.f (k : Nat) (a0 : Int) (a1 : Int) : Option (Int) := larderref03_raised.l0 k a0 a1 0
theorem larderref03_raised.mono_l : ∀ k, (∀ y0 y1 y2, LeO (larderref03_raised.l0 k y0 y1 y2) (larderref03_raised.l0 (k + 1) y0 y1 y2))
  | 0 => fun _ _ _ r h => by simp [larderref03_raised.l0] at h
  | k + 1 => by
    have ih0 := larderref03_raised.mono_l k
    · intro y0 y1 y2
      unfold larderref03_raised.l0
      repeat' first
      | (with_reducible exact ih0 _ _ _)
      | (with_reducible exact LeO.refl _)
      | (with_reducible exact LeO.none _)
      | (with_reducible refine LeO.ite ?_ ?_)
      | (with_reducible refine LeO.bind ?_ (fun _ => ?_))
      | exact ih0 _ _ _
      | exact LeO.none _
      | refine LeO.ite ?_ ?_
      | refine LeO.bind ?_ (fun _ => ?_)
theorem larderref03_raised.mono : ∀ a0 a1 k, LeO (larderref03_raised.f k a0 a1) (larderref03_raised.f (k + 1) a0 a1) := by
  intro a0 a1 k
  have ih0 := larderref03_raised.mono_l k
  unfold larderref03_raised.f
  repeat' first
      | (with_reducible exact ih0 _ _ _)
      | (with_reducible exact LeO.refl _)
      | (with_reducible exact LeO.none _)
      | (with_reducible refine LeO.ite ?_ ?_)
      | (with_reducible refine LeO.bind ?_ (fun _ => ?_))
      | exact ih0 _ _ _
      | exact LeO.none _
      | refine LeO.ite ?_ ?_
      | refine LeO.bind ?_ (fun _ => ?_)
set_option maxHeartbeats 8000000 in
set_option maxRecDepth 100000 in
theorem larderref03_raised.calls (k : Nat) (a0 : Int) (a1 : Int) (r : Int) (w : World) (h : larderref03_raised.f k a0 a1 = some r) :
    Calls Try.prog 50 #[.int .i64 a0, .int .i64 a1] w fun e w' => e = .returned (.int .i64 r) ∧ Drawn0 w w' := by
  have H : (larderref03_raised.l0 k a0 a1 0) = some r := h
  clear h
  have H' := Aside0.mk H
  clear H
  go_enter Try.func50, Try.ntmps50
  go_wp2
  go_loopg [5] k (fun kq v5 w' => ∃ (x5_1 : Int), v5 = .int .i64 x5_1 ∧ Aside0 (larderref03_raised.l0 kq a0 a1 x5_1 = some r) ∧ Aside0 (kq ≤ k) ∧ Drawn0 w w')
  case atStart => exact ⟨(0), (by first | rfl | (simp; done) | (simp [*]; done)), H', ⟨Nat.le_refl _⟩, by repeat (first | exact Drawn0.refl _ | apply Drawn0.step)⟩
  case round =>
    clear H'
    try clear p2
    obtain ⟨x5_1, rfl, HA, HK1, ⟨m1, rfl⟩⟩ := hrel
    cases gk with
    | zero => exact absurd HA.out (by simp [larderref03_raised.l0])
    | succ k1 =>
      have H := HA.out
      clear HA
      simp only [larderref03_raised.l0] at H
      by_cases c3 : x5_1 < a0
      · rw [if_pos c3] at H
        have c3b0 : decide (x5_1 < a0) = true := decide_eq_true c3
        clear c3
        have H' := Aside0.mk H
        clear H
        go_wp2
        go_roundg k1
        case measure => have := HK1.out; omega
        case rel => exact ⟨(wrap64 (x5_1 + a1)), (by first | rfl | (simp; done) | (simp [*]; done)), H', ⟨by have := HK1.out; omega⟩, by repeat (first | exact Drawn0.refl _ | apply Drawn0.step)⟩
      · rw [if_neg c3] at H
        have c3b0 : decide (x5_1 < a0) = false := decide_eq_false c3
        clear c3
        obtain rfl := Option.some.inj H
        go_wp2
        go_ret
        exact ⟨by first | rfl | (simp; done) | (simp [*]; done), by repeat (first | exact Drawn0.refl _ | apply Drawn0.step)⟩

/-! ### larderref03_fits: function 48 -/
def larderref03_fits.f (k : Nat) (a0 : Int) (a1 : Int) : Option (Bool) := (larderref03_power.f k a1 1 8).bind fun t154 => (if t154 = true then ((larderref03_raised.f k a0 a1).bind fun t155 => (some (t155 == a0))) else (some false))
theorem larderref03_fits.mono : ∀ a0 a1 k, LeO (larderref03_fits.f k a0 a1) (larderref03_fits.f (k + 1) a0 a1) := by
  intro a0 a1 k
  unfold larderref03_fits.f
  repeat' first
      | (with_reducible exact larderref03_power.mono _ _ _ _)
      | (with_reducible exact larderref03_raised.mono _ _ _)
      | (with_reducible exact LeO.refl _)
      | (with_reducible exact LeO.none _)
      | (with_reducible refine LeO.ite ?_ ?_)
      | (with_reducible refine LeO.bind ?_ (fun _ => ?_))
      | exact larderref03_power.mono _ _ _ _
      | exact larderref03_raised.mono _ _ _
      | exact LeO.none _
      | refine LeO.ite ?_ ?_
      | refine LeO.bind ?_ (fun _ => ?_)
set_option maxHeartbeats 8000000 in
set_option maxRecDepth 100000 in
theorem larderref03_fits.calls (k : Nat) (a0 : Int) (a1 : Int) (r : Bool) (w : World) (h : larderref03_fits.f k a0 a1 = some r) :
    Calls Try.prog 48 #[.int .i64 a0, .int .i64 a1] w fun e w' => e = .returned (.bool r) ∧ Drawn0 w w' := by
  have H : ((larderref03_power.f k a1 1 8).bind fun t154 => (if t154 = true then ((larderref03_raised.f k a0 a1).bind fun t155 => (some (t155 == a0))) else (some false))) = some r := h
  clear h
  replace H := Option.bind_eq_some_iff.mp H
  obtain ⟨t154, A30, H⟩ := H
  replace H : (if t154 = true then ((larderref03_raised.f k a0 a1).bind fun t155 => (some (t155 == a0))) else (some false)) = some r := H
  have A3 := Aside0.mk A30
  clear A30
  by_cases c4 : t154 = true
  · subst c4
    have H1 : ((larderref03_raised.f k a0 a1).bind fun t155 => (some (t155 == a0))) = some r := by rw [if_pos rfl] at H; exact H
    clear H
    have H := H1
    clear H1
    replace H := Option.bind_eq_some_iff.mp H
    obtain ⟨t155, A50, H⟩ := H
    replace H : (some (t155 == a0)) = some r := H
    have A5 := Aside0.mk A50
    clear A50
    obtain rfl := Option.some.inj H
    go_enter Try.func48, Try.ntmps48
    go_wp2_with (first | ((with_reducible refine gate_callee (f := 49) rfl ?_); refine goesL_ (some 8) rfl rfl Try.func49 (by kernel_rfl) rfl #[.int .i64 a1, .int .i64 1, .int .i64 8] rfl (by (try simp only [List.map_toArray, List.map_cons, List.map_nil]); first | done | rfl | (simp only [List.length_drop, List.length_take]; rfl)) ?_; (with_reducible refine (larderref03_power.calls k a1 1 8 true _ A3.out).mono ?_); rintro e w' ⟨rfl, ⟨nd, rfl⟩⟩; refine ⟨_, rfl, ?_⟩) | ((with_reducible refine gate_callee (f := 50) rfl ?_); refine goesL_ (some 13) rfl rfl Try.func50 (by kernel_rfl) rfl #[.int .i64 a0, .int .i64 a1] rfl (by (try simp only [List.map_toArray, List.map_cons, List.map_nil]); first | done | rfl | (simp only [List.length_drop, List.length_take]; rfl)) ?_; (with_reducible refine (larderref03_raised.calls k a0 a1 t155 _ A5.out).mono ?_); rintro e w' ⟨rfl, ⟨nd, rfl⟩⟩; refine ⟨_, rfl, ?_⟩))
    go_ret
    exact ⟨by first | rfl | (simp; done) | (simp [*]; done), by repeat (first | exact Drawn0.refl _ | apply Drawn0.step)⟩
  · replace c4 := Bool.eq_false_iff.mpr c4
    subst c4
    have H1 : (some false) = some r := by rw [if_neg (show ¬ (false = true) by decide)] at H; exact H
    clear H
    have H := H1
    clear H1
    obtain rfl := Option.some.inj H
    go_enter Try.func48, Try.ntmps48
    go_wp2_with (first | ((with_reducible refine gate_callee (f := 49) rfl ?_); refine goesL_ (some 8) rfl rfl Try.func49 (by kernel_rfl) rfl #[.int .i64 a1, .int .i64 1, .int .i64 8] rfl (by (try simp only [List.map_toArray, List.map_cons, List.map_nil]); first | done | rfl | (simp only [List.length_drop, List.length_take]; rfl)) ?_; (with_reducible refine (larderref03_power.calls k a1 1 8 false _ A3.out).mono ?_); rintro e w' ⟨rfl, ⟨nd, rfl⟩⟩; refine ⟨_, rfl, ?_⟩))
    go_ret
    exact ⟨by first | rfl | (simp; done) | (simp [*]; done), by repeat (first | exact Drawn0.refl _ | apply Drawn0.step)⟩

end Go.Proofs.Ytccblcnjeekhbaa.PStoreHolds
/- The reference's power, raised, fits answer as the layout's. -/
namespace Go.Proofs.Ytccblcnjeekhbaa
open Go.RowKit Go.Proofs.Ytccblcnjeekhbaa.PStoreHolds
set_option linter.unusedVariables false
set_option linter.unusedSimpArgs false

theorem rpow_step (k : Nat) (x0 x2 x7 y : Int) (h : x7 ≤ x2) (hy : wrap64 (2 * x7) = y) : larderref03_power.l0 (k + 1) x0 x2 x7 = if x7 = x0 then some true else larderref03_power.l0 k x0 x2 y := by
  subst hy
  show (if x7 ≤ x2 then _ else _) = _
  rw [if_pos h]
theorem rpow_end (k : Nat) (x0 x2 x7 : Int) (h : ¬ x7 ≤ x2) : larderref03_power.l0 (k + 1) x0 x2 x7 = some false := by
  show (if x7 ≤ x2 then _ else _) = _
  rw [if_neg h]
theorem rpow8 (k : Nat) (a : Int) : larderref03_power.f (k + 5) a 1 8 = some (pow8 a) := by
  unfold larderref03_power.f
  rw [rpow_step _ _ _ 1 2 (by decide) (by rw [wrap_ok (by omega)]; rfl), rpow_step _ _ _ 2 4 (by decide) (by rw [wrap_ok (by omega)]; rfl), rpow_step _ _ _ 4 8 (by decide) (by rw [wrap_ok (by omega)]; rfl), rpow_step _ _ _ 8 16 (by decide) (by rw [wrap_ok (by omega)]; rfl), rpow_end _ _ _ 16 (by decide)]
  unfold pow8
  by_cases h1 : 1 = a
  · subst h1; rfl
  by_cases h2 : 2 = a
  · subst h2; rfl
  by_cases h3 : 4 = a
  · subst h3; rfl
  by_cases h4 : 8 = a
  · subst h4; rfl
  rw [if_neg h1, if_neg h2, if_neg h3, if_neg h4]
  congr 1
  symm
  simp only [Bool.or_eq_false_iff, beq_eq_false_iff_ne]
  omega
theorem rpowC (k : Nat) (a : Int) : larderref03_power.f (k + 8) a 16 1024 = some (capB a) := by
  unfold larderref03_power.f
  rw [rpow_step _ _ _ 16 32 (by decide) (by rw [wrap_ok (by omega)]; rfl), rpow_step _ _ _ 32 64 (by decide) (by rw [wrap_ok (by omega)]; rfl), rpow_step _ _ _ 64 128 (by decide) (by rw [wrap_ok (by omega)]; rfl), rpow_step _ _ _ 128 256 (by decide) (by rw [wrap_ok (by omega)]; rfl),
    rpow_step _ _ _ 256 512 (by decide) (by rw [wrap_ok (by omega)]; rfl), rpow_step _ _ _ 512 1024 (by decide) (by rw [wrap_ok (by omega)]; rfl), rpow_step _ _ _ 1024 2048 (by decide) (by rw [wrap_ok (by omega)]; rfl), rpow_end _ _ _ 2048 (by decide)]
  unfold capB
  by_cases h1 : 16 = a
  · subst h1; rfl
  by_cases h2 : 32 = a
  · subst h2; rfl
  by_cases h3 : 64 = a
  · subst h3; rfl
  by_cases h4 : 128 = a
  · subst h4; rfl
  by_cases h5 : 256 = a
  · subst h5; rfl
  by_cases h6 : 512 = a
  · subst h6; rfl
  by_cases h7 : 1024 = a
  · subst h7; rfl
  rw [if_neg h1, if_neg h2, if_neg h3, if_neg h4, if_neg h5, if_neg h6, if_neg h7]
  congr 1
  symm
  simp only [Bool.or_eq_false_iff, beq_eq_false_iff_ne]
  omega
theorem rraised (n a : Int) (hn : 0 ≤ n) (hn2 : n ≤ 400) (ha : pow8 a = true) : ∀ (k : Nat) (x : Int), 0 ≤ x → x % a = 0 → x ≤ raiseI n a → raiseI n a - x < k → larderref03_raised.l0 k n a x = some (raiseI n a)
  | 0, x, h0, hm, hx, hk => by omega
  | k + 1, x, h0, hm, hx, hk => by
    have IH := rraised n a hn hn2 ha k (x + a)
    show (if x < n then larderref03_raised.l0 k n a (wrap64 (x + a)) else some x) = _
    have hp := pow8_pos a ha
    unfold raiseI at *
    by_cases h : x < n
    · rw [if_pos h, wrap_ok (by rcases hp with rfl | rfl | rfl | rfl <;> omega)]
      refine IH ?_ ?_ ?_ ?_ <;> rcases hp with rfl | rfl | rfl | rfl <;> omega
    · rw [if_neg h]
      congr 1
      rcases hp with rfl | rfl | rfl | rfl <;> omega
theorem rraised_f (n a : Int) (hn : 0 ≤ n) (hn2 : n ≤ 400) (ha : pow8 a = true) : larderref03_raised.f 500 n a = some (raiseI n a) := by
  unfold larderref03_raised.f
  have hp := pow8_pos a ha
  refine rraised n a hn hn2 ha 500 0 (by omega) (by simp) ?_ ?_ <;> unfold raiseI <;> rcases hp with rfl | rfl | rfl | rfl <;> omega
theorem rfits_f (x a : Int) (hx : 0 ≤ x) (hx2 : x ≤ 400) : larderref03_fits.f 500 x a = some (alB x a) := by
  unfold larderref03_fits.f
  rw [rpow8 495 a]
  show (if pow8 a = true then _ else _) = _
  unfold alB
  cases ha : pow8 a with
  | false => rfl
  | true =>
    rw [if_pos rfl, rraised_f x a hx hx2 ha]
    show some (raiseI x a == x) = some (true && (x % a == 0))
    have hp := pow8_pos a ha
    congr 1
    rw [Bool.true_and, Bool.eq_iff_iff]
    simp only [beq_iff_eq]
    unfold raiseI
    rcases hp with rfl | rfl | rfl | rfl <;> omega
theorem rfits_call {x a : Int} {b : Bool} (h : alB x a = b) (hx : 0 ≤ x) (hx2 : x ≤ 400) (w : World) : Calls Try.prog 48 #[.int .i64 x, .int .i64 a] w fun e w' => e = .returned (.bool b) ∧ ∃ k, w' = w.drewN k := by
  subst h
  refine (larderref03_fits.calls 500 x a _ w (rfits_f x a hx hx2)).mono ?_
  intro e w' h
  exact ⟨h.1, h.2.out⟩
theorem rcap_call {c : Int} {b : Bool} (h : capB c = b) (w : World) : Calls Try.prog 49 #[.int .i64 c, .int .i64 16, .int .i64 1024] w fun e w' => e = .returned (.bool b) ∧ ∃ k, w' = w.drewN k := by
  subst h
  refine (larderref03_power.calls 500 c _ _ _ w (rpowC 492 c)).mono ?_
  intro e w' h
  exact ⟨h.1, h.2.out⟩
theorem rraise_call (n a : Int) (hn : 0 ≤ n) (hn2 : n ≤ 400) (ha : pow8 a = true) (w : World) : Calls Try.prog 50 #[.int .i64 n, .int .i64 a] w fun e w' => e = .returned (.int .i64 (raiseI n a)) ∧ ∃ k, w' = w.drewN k := by
  refine (larderref03_raised.calls 500 n a _ w (rraised_f n a hn hn2 ha)).mono ?_
  intro e w' h
  exact ⟨h.1, h.2.out⟩
end Go.Proofs.Ytccblcnjeekhbaa
/- layout.Parse, layout.Valid, walked. -/
namespace Go.Proofs.Ytccblcnjeekhbaa
open Go.RowKit Go.Proofs.Ytccblcnjeekhbaa.PStoreHolds
set_option linter.unusedVariables false
set_option linter.unusedSimpArgs false

abbrev lz : Array Value := #[.int .i64 0, .int .i64 0, .int .i64 0, .int .i64 0, .int .i64 0, .int .i64 0, .int .i64 0, .int .i64 0, .int .i64 0]
def okL (k e ka ea c : Int) : Bool := decide (1 ≤ k ∧ k ≤ 128) && (decide (0 ≤ e ∧ e ≤ 128) && (alB k ka && (alB e ea && capB c)))
def eoI (k ea : Int) : Int := raiseI k ea
def boI (k e ea : Int) : Int := raiseI (raiseI k ea + e) 8
def layV (k e ka ea c : Int) : Value := .agg #[.int .i64 k, .int .i64 e, .int .i64 ka, .int .i64 ea, .int .i64 c, .int .i64 (eoI k ea), .int .i64 (boI k e ea), .int .i64 (boI k e ea + 8), .int .i64 (8 + 8 * (boI k e ea + 8))]
def ParsePost (w : World) (k e ka ea c : Int) (en : Ending) (w' : World) : Prop :=
  (okL k e ka ea c = true ∧ en = .returned (.tuple #[layV k e ka ea c, .int .i64 0]) ∨ okL k e ka ea c = false ∧ ∃ r, r ≠ 0 ∧ en = .returned (.tuple #[.agg lz, .int .i64 r])) ∧ Turn (fun _ => False) w w'
theorem parse_no {w w' : World} {k e ka ea c r : Int} (h : okL k e ka ea c = false) (hr : r ≠ 0) (T : Turn (fun _ => False) w w') : ParsePost w k e ka ea c (.returned (.tuple #[.agg lz, .int .i64 r])) w' :=
  ⟨.inr ⟨h, r, hr, rfl⟩, T⟩
theorem raise_bd (n a : Int) (hn : 0 ≤ n) (ha : pow8 a = true) : n ≤ raiseI n a ∧ raiseI n a ≤ n + 7 := by
  have := pow8_pos a ha
  unfold raiseI
  rcases this with rfl | rfl | rfl | rfl <;> omega
/-- the five fields lie at b -/
structure Flds (w : World) (b : Nat) (k e ka ea c : Int) : Prop where
  h0 : w.cell? ⟨b, 0, none⟩ = some (.int .i64 k)
  h1 : w.cell? ⟨b, 1, none⟩ = some (.int .i64 e)
  h2 : w.cell? ⟨b, 2, none⟩ = some (.int .i64 ka)
  h3 : w.cell? ⟨b, 3, none⟩ = some (.int .i64 ea)
  h4 : w.cell? ⟨b, 4, none⟩ = some (.int .i64 c)
theorem Flds.alloc {w : World} {b : Nat} {k e ka ea c : Int} (h : Flds w b k e ka ea c) (o : Obj) : Flds (w.alloc o) b k e ka ea c :=
  ⟨Lib.cell?_alloc_some _ h.h0, Lib.cell?_alloc_some _ h.h1, Lib.cell?_alloc_some _ h.h2, Lib.cell?_alloc_some _ h.h3, Lib.cell?_alloc_some _ h.h4⟩


/-- a call that only draws, over two new blocks: the draws are pushed below them -/
def Pushed (w : World) (A B : Obj) (v : Value) (e : Ending) (w' : World) : Prop :=
  e = .returned v ∧ ∃ w1, w' = (w1.alloc A).alloc B ∧ w1.heap.size = w.heap.size ∧ Turn (fun _ => False) w w1
theorem push {f : Nat} {args : Array Value} {v : Value} (h : ∀ w, Calls Try.prog f args w fun e w' => e = .returned v ∧ ∃ k, w' = w.drewN k) (w W : World) (A B : Obj) (n : Nat) (hW : W = ((w.alloc A).alloc B).drewN n) : Calls Try.prog f args W (Pushed w A B v) := by
  subst hW
  refine (h _).mono ?_
  rintro e w' ⟨rfl, k, rfl⟩
  exact ⟨rfl, (w.drewN n).drewN k, rfl, rfl, ((Turn.refl _ w).drewN n).drewN k⟩
theorem push0 {f : Nat} {args : Array Value} {v : Value} (h : ∀ w, Calls Try.prog f args w fun e w' => e = .returned v ∧ ∃ k, w' = w.drewN k) (w : World) (A B : Obj) : Calls Try.prog f args ((w.alloc A).alloc B) (Pushed w A B v) := push h w _ A B 0 rfl
theorem al_call {x a : Int} {b : Bool} (h : alB x a = b) (hx : 0 ≤ x) : ∀ w, Calls Try.prog 45 #[.int .i64 x, .int .i64 a] w fun e w' => e = .returned (.bool b) ∧ ∃ k, w' = w.drewN k := by
  intro w
  have := aligned_call x a hx w
  rw [h] at this
  exact this
theorem cp_call {c : Int} {b : Bool} (h : capB c = b) : ∀ w, Calls Try.prog 46 #[.int .i64 c, .int .i64 16, .int .i64 1024] w fun e w' => e = .returned (.bool b) ∧ ∃ k, w' = w.drewN k := by
  intro w
  have := cap_call c w
  rw [h] at this
  exact this

set_option maxRecDepth 100000 in
set_option maxHeartbeats 16000000 in
theorem parse_aux (wo w : World) (T : Turn (fun _ => False) wo w) (b : Nat) (k e ka ea c : Int) (h : Flds w b k e ka ea c) : Calls Try.prog 34 #[.slice (some ⟨b, 0, none⟩) 5 5] w (ParsePost wo k e ka ea c) := by
  have OK := Lib.hid (show okL k e ka ea c = (decide (1 ≤ k ∧ k ≤ 128) && (decide (0 ≤ e ∧ e ≤ 128) && (alB k ka && (alB e ea && capB c)))) from rfl)
  obtain ⟨x0, x1, x2, x3, x4⟩ := h.alloc (.cells lz 43)
  obtain ⟨y0, y1, y2, y3, y4⟩ := (h.alloc (.cells lz 43)).alloc (.cells lz 43)
  clear h
  unfold lz at x0 x1 x2 x3 x4 y0 y1 y2 y3 y4
  go_enter Try.func34, Try.ntmps34
  go_wp2_with fail
  go_region
  clear x0 x1 x2 x3 x4 y0 y1 y2 y3 y4
  by_cases hk : 1 ≤ k ∧ k ≤ 128
  · obtain ⟨hk1, hk2⟩ := hk
    by_cases he : 0 ≤ e ∧ e ≤ 128
    · obtain ⟨he1, he2⟩ := he
      cases ha : alB k ka with
      | false =>
        have hno := Lib.hid (show okL k e ka ea c = false by rw [OK.out, ha]; simp)
        have hc := Lib.hid (al_call ha (by omega))
        clear ha
        go_wp2_with fail
        first | refine (push hc.out w _ _ _ _ rfl).mono ?_ | refine (push0 hc.out w _ _).mono ?_
        rintro en W1 ⟨rfl, w1, rfl, hs, T1⟩
        rw [← hs]
        replace T := T.then T1 (fun _ h => h.elim)
        clear hs T1
        go_wp2_with fail
        refine bodyPost_ret (v := .tuple #[.agg lz, .int .i64 33]) (by simp [results, Try.results34, go_sem]) rfl (parse_no hno.out (by decide) ?_)
        repeat (first | exact T | apply Turn.drewN | apply Turn.drew | apply Turn.alloc)
      | true =>
        have hc := Lib.hid (al_call ha (by omega))
        cases hb : alB e ea with
        | false =>
          have hno := Lib.hid (show okL k e ka ea c = false by rw [OK.out, hb]; simp)
          have hc2 := Lib.hid (al_call hb he1)
          clear ha hb
          go_wp2_with fail
          first | refine (push hc.out w _ _ _ _ rfl).mono ?_ | refine (push0 hc.out w _ _).mono ?_
          rintro en W1 ⟨rfl, w1, rfl, hs, T1⟩
          rw [← hs]
          replace T := T.then T1 (fun _ h => h.elim)
          clear hs T1
          go_wp2_with fail
          first | refine (push hc2.out w1 _ _ _ _ rfl).mono ?_ | refine (push0 hc2.out w1 _ _).mono ?_
          rintro en W1 ⟨rfl, w2, rfl, hs, T1⟩
          rw [← hs]
          replace T := T.then T1 (fun _ h => h.elim)
          clear hs T1
          go_wp2_with fail
          refine bodyPost_ret (v := .tuple #[.agg lz, .int .i64 33]) (by simp [results, Try.results34, go_sem]) rfl (parse_no hno.out (by decide) ?_)
          repeat (first | exact T | apply Turn.drewN | apply Turn.drew | apply Turn.alloc)
        | true =>
          have hc2 := Lib.hid (al_call hb he1)
          cases hp : capB c with
          | false =>
            have hno := Lib.hid (show okL k e ka ea c = false by rw [OK.out, hp]; simp)
            have hc3 := Lib.hid (cp_call hp)
            clear ha hb hp
            go_wp2_with fail
            first | refine (push hc.out w _ _ _ _ rfl).mono ?_ | refine (push0 hc.out w _ _).mono ?_
            rintro en W1 ⟨rfl, w1, rfl, hs, T1⟩
            rw [← hs]
            replace T := T.then T1 (fun _ h => h.elim)
            clear hs T1
            go_wp2_with fail
            first | refine (push hc2.out w1 _ _ _ _ rfl).mono ?_ | refine (push0 hc2.out w1 _ _).mono ?_
            rintro en W1 ⟨rfl, w2, rfl, hs, T1⟩
            rw [← hs]
            replace T := T.then T1 (fun _ h => h.elim)
            clear hs T1
            go_wp2_with fail
            first | refine (push hc3.out w2 _ _ _ _ rfl).mono ?_ | refine (push0 hc3.out w2 _ _).mono ?_
            rintro en W1 ⟨rfl, w3, rfl, hs, T1⟩
            rw [← hs]
            replace T := T.then T1 (fun _ h => h.elim)
            clear hs T1
            go_wp2_with fail
            refine bodyPost_ret (v := .tuple #[.agg lz, .int .i64 34]) (by simp [results, Try.results34, go_sem]) rfl (parse_no hno.out (by decide) ?_)
            repeat (first | exact T | apply Turn.drewN | apply Turn.drew | apply Turn.alloc)
          | true =>
            have hyes := Lib.hid (show okL k e ka ea c = true by rw [OK.out, ha, hb, hp]; simp; omega)
            have hc3 := Lib.hid (cp_call hp)
            have h8 : pow8 ea = true := by unfold alB at hb; simp only [Bool.and_eq_true] at hb; exact hb.1
            have d1 := raise_bd k ea (by omega) h8
            have d2 := raise_bd (raiseI k ea + e) 8 (by omega) rfl
            have r1 := Lib.hid (fun w => raise_call k ea (by omega) (by omega) h8 w)
            have r2 := Lib.hid (fun w => raise_call (raiseI k ea + e) 8 (by omega) (by omega) rfl w)
            have FIN : Hid (∀ w', Turn (fun _ => False) wo w' → ParsePost wo k e ka ea c (.returned (.tuple #[layV k e ka ea c, .int .i64 0])) w') := Lib.hid (fun w' T => ⟨.inl ⟨hyes.out, rfl⟩, T⟩)
            unfold layV eoI boI at FIN
            clear ha hb hp h8
            generalize raiseI (raiseI k ea + e) 8 = bo at *
            generalize raiseI k ea = eo at *
            obtain ⟨d3, d4⟩ := d1
            obtain ⟨d5, d6⟩ := d2
            go_wp2_with fail
            first | refine (push hc.out w _ _ _ _ rfl).mono ?_ | refine (push0 hc.out w _ _).mono ?_
            rintro en W1 ⟨rfl, w1, rfl, hs, T1⟩
            rw [← hs]
            replace T := T.then T1 (fun _ h => h.elim)
            clear hs T1
            go_wp2_with fail
            first | refine (push hc2.out w1 _ _ _ _ rfl).mono ?_ | refine (push0 hc2.out w1 _ _).mono ?_
            rintro en W1 ⟨rfl, w2, rfl, hs, T1⟩
            rw [← hs]
            replace T := T.then T1 (fun _ h => h.elim)
            clear hs T1
            go_wp2_with fail
            first | refine (push hc3.out w2 _ _ _ _ rfl).mono ?_ | refine (push0 hc3.out w2 _ _).mono ?_
            rintro en W1 ⟨rfl, w3, rfl, hs, T1⟩
            rw [← hs]
            replace T := T.then T1 (fun _ h => h.elim)
            clear hs T1
            go_wp2_with fail
            first | refine (push r1.out w3 _ _ _ _ rfl).mono ?_ | refine (push0 r1.out w3 _ _).mono ?_
            rintro en W1 ⟨rfl, w4, rfl, hs, T1⟩
            rw [← hs]
            replace T := T.then T1 (fun _ h => h.elim)
            clear hs T1
            go_wp2_with fail
            first | refine (push r2.out w4 _ _ _ _ rfl).mono ?_ | refine (push0 r2.out w4 _ _).mono ?_
            rintro en W1 ⟨rfl, w5, rfl, hs, T1⟩
            rw [← hs]
            replace T := T.then T1 (fun _ h => h.elim)
            clear hs T1
            go_wp2_with fail
            exact bodyPost_ret (v := .tuple #[.agg #[.int .i64 k, .int .i64 e, .int .i64 ka, .int .i64 ea, .int .i64 c, .int .i64 eo, .int .i64 bo, .int .i64 (bo + 8), .int .i64 (8 + 8 * (bo + 8))], .int .i64 0]) (by simp [results, Try.results34, go_sem]) rfl (FIN.out _ ((T.alloc _).alloc _))
    · have hno := Lib.hid (show okL k e ka ea c = false by rw [OK.out, decide_eq_false he]; simp)
      have he' : e < 0 ∨ 128 < e := by omega
      clear he
      rcases he' with he | he
      all_goals
        go_wp2_with fail
        refine bodyPost_ret (v := .tuple #[.agg lz, .int .i64 32]) (by simp [results, Try.results34, go_sem]) rfl (parse_no hno.out (by decide) ?_)
        repeat (first | exact T | apply Turn.drewN | apply Turn.drew | apply Turn.alloc)
  · have hno := Lib.hid (show okL k e ka ea c = false by rw [OK.out, decide_eq_false hk]; simp)
    have hk' : k < 1 ∨ 128 < k := by omega
    clear hk
    rcases hk' with hk | hk
    all_goals
      go_wp2_with fail
      refine bodyPost_ret (v := .tuple #[.agg lz, .int .i64 31]) (by simp [results, Try.results34, go_sem]) rfl (parse_no hno.out (by decide) ?_)
      repeat (first | exact T | apply Turn.drewN | apply Turn.drew | apply Turn.alloc)

theorem parse_call (w : World) (b : Nat) (k e ka ea c : Int) (h : Flds w b k e ka ea c) : Calls Try.prog 34 #[.slice (some ⟨b, 0, none⟩) 5 5] w (ParsePost w k e ka ea c) := parse_aux w w (Turn.refl _ w) b k e ka ea c h
end Go.Proofs.Ytccblcnjeekhbaa
/- layout.Valid, walked. -/
namespace Go.Proofs.Ytccblcnjeekhbaa
open Go.RowKit Go.Proofs.Ytccblcnjeekhbaa.PStoreHolds
set_option linter.unusedVariables false
set_option linter.unusedSimpArgs false
attribute [local go_sem high] eqA43

def layO (f0 f1 f2 f3 f4 f5 f6 f7 f8 : Int) : Value := .agg #[.int .i64 f0, .int .i64 f1, .int .i64 f2, .int .i64 f3, .int .i64 f4, .int .i64 f5, .int .i64 f6, .int .i64 f7, .int .i64 f8]
/-- a layout is valid: its five numbers are, and the four derived ones are as they are derived -/
def valB (f0 f1 f2 f3 f4 f5 f6 f7 f8 : Int) : Bool :=
  okL f0 f1 f2 f3 f4 && (eoI f0 f3 == f5 && (boI f0 f1 f3 == f6 && (boI f0 f1 f3 + 8 == f7 && 8 + 8 * (boI f0 f1 f3 + 8) == f8)))
theorem Flds.of {w : World} {f0 f1 f2 f3 f4 : Int} : Flds (w.alloc (.cells #[.int .i64 f0, .int .i64 f1, .int .i64 f2, .int .i64 f3, .int .i64 f4] 3)) w.heap.size f0 f1 f2 f3 f4 := by
  constructor <;> simp [go_sem]

theorem size_a (w : World) (o : Obj) : (w.alloc o).heap.size = w.heap.size + 1 := by
  show (w.heap.push o).size = _
  simp
theorem alloc2_get (w : World) (o p : Obj) : ((w.alloc o).alloc p).heap[w.heap.size]? = some o := alloc_old (alloc_new w o) p

theorem cell_of {w : World} {R i : Nat} {xs : Array Value} {t : TypeId} {v : Value} (h : w.heap[R]? = some (.cells xs t)) (hi : xs[i]? = some v) : w.cell? ⟨R, i, none⟩ = some v := by
  simp [World.cell?, h, hi]
set_option maxRecDepth 100000 in
set_option maxHeartbeats 16000000 in
theorem valid_call (w : World) (f0 f1 f2 f3 f4 f5 f6 f7 f8 : Int) : Calls Try.prog 19 #[layO f0 f1 f2 f3 f4 f5 f6 f7 f8] w fun en w' => en = .returned (.bool (valB f0 f1 f2 f3 f4 f5 f6 f7 f8)) ∧ Turn (fun _ => False) w w' := by
  unfold layO
  go_enter Try.func19, Try.ntmps19
  go_wp2_with fail
  refine (parse_call _ _ f0 f1 f2 f3 f4 ?_).mono ?_
  · rw [← size_a]
    exact Flds.of
  rintro en W1 ⟨P, T⟩
  have T0 : Turn (fun _ => False) w W1 := (((Turn.refl _ w).alloc _).alloc _).then T (fun _ h => h.elim)
  have B0 := T.heap (alloc2_get w _ _) (fun h => h)
  clear T
  generalize w.heap.size = R at *
  rcases P with ⟨ok, rfl⟩ | ⟨no, r, hr, rfl⟩
  · unfold layV
    have z0 := cell_of (v := .int .i64 f0) (i := 0) (alloc_old B0 (.cells #[.int .i64 f0, .int .i64 f1, .int .i64 f2, .int .i64 f3, .int .i64 f4, .int .i64 (eoI f0 f3), .int .i64 (boI f0 f1 f3), .int .i64 (boI f0 f1 f3 + 8), .int .i64 (8 + 8 * (boI f0 f1 f3 + 8))] 43)) rfl
    have z1 := cell_of (v := .int .i64 f1) (i := 1) (alloc_old B0 (.cells #[.int .i64 f0, .int .i64 f1, .int .i64 f2, .int .i64 f3, .int .i64 f4, .int .i64 (eoI f0 f3), .int .i64 (boI f0 f1 f3), .int .i64 (boI f0 f1 f3 + 8), .int .i64 (8 + 8 * (boI f0 f1 f3 + 8))] 43)) rfl
    have z2 := cell_of (v := .int .i64 f2) (i := 2) (alloc_old B0 (.cells #[.int .i64 f0, .int .i64 f1, .int .i64 f2, .int .i64 f3, .int .i64 f4, .int .i64 (eoI f0 f3), .int .i64 (boI f0 f1 f3), .int .i64 (boI f0 f1 f3 + 8), .int .i64 (8 + 8 * (boI f0 f1 f3 + 8))] 43)) rfl
    have z3 := cell_of (v := .int .i64 f3) (i := 3) (alloc_old B0 (.cells #[.int .i64 f0, .int .i64 f1, .int .i64 f2, .int .i64 f3, .int .i64 f4, .int .i64 (eoI f0 f3), .int .i64 (boI f0 f1 f3), .int .i64 (boI f0 f1 f3 + 8), .int .i64 (8 + 8 * (boI f0 f1 f3 + 8))] 43)) rfl
    have z4 := cell_of (v := .int .i64 f4) (i := 4) (alloc_old B0 (.cells #[.int .i64 f0, .int .i64 f1, .int .i64 f2, .int .i64 f3, .int .i64 f4, .int .i64 (eoI f0 f3), .int .i64 (boI f0 f1 f3), .int .i64 (boI f0 f1 f3 + 8), .int .i64 (8 + 8 * (boI f0 f1 f3 + 8))] 43)) rfl
    have z5 := cell_of (v := .int .i64 f5) (i := 5) (alloc_old B0 (.cells #[.int .i64 f0, .int .i64 f1, .int .i64 f2, .int .i64 f3, .int .i64 f4, .int .i64 (eoI f0 f3), .int .i64 (boI f0 f1 f3), .int .i64 (boI f0 f1 f3 + 8), .int .i64 (8 + 8 * (boI f0 f1 f3 + 8))] 43)) rfl
    have z6 := cell_of (v := .int .i64 f6) (i := 6) (alloc_old B0 (.cells #[.int .i64 f0, .int .i64 f1, .int .i64 f2, .int .i64 f3, .int .i64 f4, .int .i64 (eoI f0 f3), .int .i64 (boI f0 f1 f3), .int .i64 (boI f0 f1 f3 + 8), .int .i64 (8 + 8 * (boI f0 f1 f3 + 8))] 43)) rfl
    have z7 := cell_of (v := .int .i64 f7) (i := 7) (alloc_old B0 (.cells #[.int .i64 f0, .int .i64 f1, .int .i64 f2, .int .i64 f3, .int .i64 f4, .int .i64 (eoI f0 f3), .int .i64 (boI f0 f1 f3), .int .i64 (boI f0 f1 f3 + 8), .int .i64 (8 + 8 * (boI f0 f1 f3 + 8))] 43)) rfl
    have z8 := cell_of (v := .int .i64 f8) (i := 8) (alloc_old B0 (.cells #[.int .i64 f0, .int .i64 f1, .int .i64 f2, .int .i64 f3, .int .i64 f4, .int .i64 (eoI f0 f3), .int .i64 (boI f0 f1 f3), .int .i64 (boI f0 f1 f3 + 8), .int .i64 (8 + 8 * (boI f0 f1 f3 + 8))] 43)) rfl
    go_wp2_with fail
    exact bodyPost_ret (v := .bool (eoI f0 f3 == f5 && (boI f0 f1 f3 == f6 && (boI f0 f1 f3 + 8 == f7 && 8 + 8 * (boI f0 f1 f3 + 8) == f8)))) (by simp [results, Try.results19, go_sem]) rfl ⟨by unfold valB; rw [ok]; rfl, T0.alloc _⟩
  · have hr0 : (r == 0) = false := by simpa using hr
    go_wp2_with fail
    exact bodyPost_ret (v := .bool false) (by simp [results, Try.results19, go_sem]) rfl ⟨by unfold valB; rw [no]; rfl, T0.alloc _⟩
end Go.Proofs.Ytccblcnjeekhbaa
