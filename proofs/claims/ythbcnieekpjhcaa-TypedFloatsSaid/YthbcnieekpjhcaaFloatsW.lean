/- TypedFloats' walk: for every list of asks it returns true and writes nothing that was there. -/
import Derived.Test.YthbcnieekpjhcaaReads
import Derived.Test.YthbcnieekpjhcaaWhole
import Derived.Test.YthbcnieekpjhcaaAsks
set_option linter.unusedVariables false
set_option linter.unusedSimpArgs false
namespace Go.Proofs.Ythbcnieekpjhcaa.Fl
open Go.RowKit Go.Proofs.Ythbcnieekpjhcaa.Leaf

theorem fkey_num (f : Nat) (h : f < 18446744073709551616) (hn : isNum f) : fkey f = if (bitsOf f : Int) < 9223372036854775808 then (bitsOf f : Int) + 9223372036854775808 else 18446744073709551615 - (bitsOf f : Int) := by
  unfold isNum at hn
  unfold fkey bitsOf
  rw [if_pos hn]
  by_cases z : f % 9223372036854775808 = 0
  · rw [if_pos z, if_pos z, if_pos (by omega)]; rfl
  · rw [if_neg z, if_neg z]
    by_cases c : f < 9223372036854775808
    · rw [if_pos c, if_pos (by omega)]
    · rw [if_neg c, if_neg (by omega)]
theorem bitsOf_lt (f : Nat) (h : f < 18446744073709551616) : bitsOf f < 18446744073709551616 := by unfold bitsOf; split <;> omega

theorem all_ones : be8 18446744073709551615 = ⟨#[255, 255, 255, 255, 255, 255, 255, 255]⟩ := by decide +kernel

set_option maxHeartbeats 1000000 in
set_option maxRecDepth 100000 in
theorem float_call (i u : Int) (f : Nat) (b : Bool) (m : Int) (s raw : ByteArray) (w : World) (hf : f < 18446744073709551616) :
    Calls Try.prog 10 #[.agg #[.int .i64 i, .int .u64 u, .float .f64 f, .bool b, .int .i64 m, .string s, .string raw]] w fun e w' => e = .returned (.bool true) ∧ Below w.heap.size w w' := by
  have hW := Leaf.ask_size i u f b m s raw w
  have h0 : Below (w.heap.size + 1) (w.alloc (askObj i u f b m s raw)) (w.alloc (askObj i u f b m s raw)) := Below.refl _ _
  have hfin : ∀ x, Below (w.heap.size + 1) (w.alloc (askObj i u f b m s raw)) x → Below w.heap.size w x := fun x h => below_box0.trans (h.mono (by omega))
  have Hfin := Lib.hid hfin
  clear hfin
  have HP := Lib.hid (fun w => float_pack f w hf)
  by_cases hn : isNum f
  · have o1 := ord_refl f hf hn
    have HB := Lib.hid (fun w => bits_call f w hf hn)
    have ek := fkey_num f hf hn
    have HR := Lib.hid (fun w => ref_pack_float (bitsOf f) w (by omega) (by have := bitsOf_lt f hf; omega))
    rw [ek] at HP
    generalize be8 (if (bitsOf f : Int) < 9223372036854775808 then (bitsOf f : Int) + 9223372036854775808 else 18446744073709551615 - (bitsOf f : Int)) = pk at *
    generalize bitsOf f = bf at *
    clear ek hf hn
    go_enter Try.func10, Try.ntmps10
    go_wp2_with fail
    refine (call_in (HP.out _) hW h0).mono ?_
    rintro e w1 ⟨rfl, h1⟩
    clear h0
    obtain ⟨-, -, c2, -, -, -, -⟩ := ask_cells h1
    go_wp2_with fail
    refine (HB.out _).mono ?_
    rintro e w2 ⟨rfl, rfl⟩
    go_wp2_with fail
    refine (call_in (HR.out _) hW h1).mono ?_
    rintro e w3 ⟨rfl, h3⟩
    clear h1 c2
    go_wp2_with fail
    refine (call_in (float_width _) hW h3).mono ?_
    rintro e w4 ⟨rfl, h4⟩
    clear h3
    go_wp2_with fail
    refine (call_in (float_align _) hW h4).mono ?_
    rintro e w5 ⟨rfl, h5⟩
    clear h4
    go_wp2_with fail
    go_region_held3 (fun x => Below (w.heap.size + 1) (w.alloc (askObj i u f b m s raw)) x ∧ x.cell? ⟨w.heap.size, 6, none⟩ = some (.string raw))
      ((refine (fun h => ⟨h, (ask_cells h).2.2.2.2.2.2⟩) ?_; repeat (first | assumption | apply Below.drew)))
      (first | (go_at_call 21; refine (call_in (float_unpack _ _) hW (by repeat (first | assumption | apply Below.drew))).mono ?_; rintro e wa ⟨rfl, ha⟩) | (go_at_call 43; refine (call_in (reads_call _ _) hW (by repeat (first | assumption | apply Below.drew))).mono ?_; rintro e wb ⟨rfl, hb⟩))
    all_goals
      go_wp2_with fail
      go_ret
      exact ⟨rfl, Hfin.out _ (by assumption)⟩
  · have o1 := ord_nan f f hf hn
    have ek : fkey f = 18446744073709551615 := by unfold fkey; rw [if_neg (by unfold isNum at hn; exact hn)]
    rw [ek, all_ones] at HP
    clear ek hf hn
    go_enter Try.func10, Try.ntmps10
    go_wp2_with fail
    refine (call_in (HP.out _) hW h0).mono ?_
    rintro e w1 ⟨rfl, h1⟩
    clear h0
    obtain ⟨-, -, c2, -, -, -, -⟩ := ask_cells h1
    go_wp2_with fail
    refine (call_in (float_width _) hW h1).mono ?_
    rintro e w4 ⟨rfl, h4⟩
    clear h1 c2
    go_wp2_with fail
    refine (call_in (float_align _) hW h4).mono ?_
    rintro e w5 ⟨rfl, h5⟩
    clear h4
    go_wp2_with fail
    go_region_held3 (fun x => Below (w.heap.size + 1) (w.alloc (askObj i u f b m s raw)) x ∧ x.cell? ⟨w.heap.size, 6, none⟩ = some (.string raw))
      ((refine (fun h => ⟨h, (ask_cells h).2.2.2.2.2.2⟩) ?_; repeat (first | assumption | apply Below.drew)))
      (first | (go_at_call 21; refine (call_in (float_unpack _ _) hW (by repeat (first | assumption | apply Below.drew))).mono ?_; rintro e wa ⟨rfl, ha⟩) | (go_at_call 43; refine (call_in (reads_call _ _) hW (by repeat (first | assumption | apply Below.drew))).mono ?_; rintro e wb ⟨rfl, hb⟩))
    all_goals
      go_wp2_with fail
      go_ret
      exact ⟨rfl, Hfin.out _ (by assumption)⟩

theorem last_float (w : World) : Calls Try.prog 11 #[.agg #[], .float .f64 13835058055282163712] w fun e w' => e = .returned (.tuple #[.string ⟨#[63, 255, 255, 255, 255, 255, 255, 255]⟩, .bool true]) ∧ Below w.heap.size w w' := by
  have h := float_pack 13835058055282163712 w (by omega)
  have e : be8 (fkey 13835058055282163712) = ⟨#[63, 255, 255, 255, 255, 255, 255, 255]⟩ := by decide +kernel
  rw [e] at h
  exact h

set_option maxRecDepth 100000 in
theorem floats_walk (a : Option Addr) (len cap : Nat) (w : World) (h : IsAsks w a len cap) :
    Calls Try.prog 4 #[.slice a len cap] w fun e w' => e = .returned (.bool true) ∧ Below w.heap.size w w' := by
  rcases h with rfl | ⟨b, off, rfl, hlen, hall⟩
  · go_enter Try.func4, Try.ntmps4
    go_wp2_with fail
    go_loopw [3] (fun i wr => i = .int .i64 0 ∧ Below w.heap.size w wr) (fun i wr => 0)
    case atStart => exact ⟨rfl, Below.refl _ _⟩
    case round =>
      obtain ⟨rfl, hB⟩ := hrel
      go_wp2_with fail
      refine (last_float _).mono ?_
      rintro e w1 ⟨rfl, h1⟩
      go_wp2_with fail
      go_ret
      exact ⟨by simp, hB.trans (h1.mono hB.size)⟩
  · unfold maxLen at hlen
    go_enter Try.func4, Try.ntmps4
    go_wp2_with fail
    go_loopw [3] (fun i wr => ∃ k : Nat, k ≤ len ∧ i = .int .i64 k ∧ Below w.heap.size w wr) (fun i wr => len - (intOf i).toNat)
    case atStart => exact ⟨0, Nat.zero_le _, rfl, Below.refl _ _⟩
    case round =>
      obtain ⟨k, hk, rfl, hB⟩ := hrel
      by_cases hlt : k < len
      · obtain ⟨i, u, f, c, m, s, raw, ⟨c0, c1, c2, c3, c4, c5, c6⟩, i0, i1, u0, u1, hf, -, -, -, -⟩ := hall k hlt
        have hblt : b < w.heap.size := World.block_lt_of_cell? w _ c0
        have hc : ∀ o, wr.cell? ⟨b, o, none⟩ = w.cell? ⟨b, o, none⟩ := fun o => hB.cell (p := ⟨b, o, none⟩) hblt
        rw [← hc] at c0 c1 c2 c3 c4 c5 c6
        clear hc
        have HF := Lib.hid (fun w => float_call i u f c m s raw w hf)
        clear hf i0 i1 u0 u1
        go_wp2_with fail
        refine (HF.out _).mono ?_
        rintro e w1 ⟨rfl, h1⟩
        go_wp2_with fail
        go_roundw
        case rel => exact ⟨k + 1, by omega, by go_num, hB.trans (h1.mono hB.size)⟩
        case measure => simp [intOf]; omega
      · go_wp2_with fail
        refine (last_float _).mono ?_
        rintro e w1 ⟨rfl, h1⟩
        go_wp2_with fail
        go_ret
        exact ⟨by simp, hB.trans (h1.mono hB.size)⟩
end Go.Proofs.Ythbcnieekpjhcaa.Fl
