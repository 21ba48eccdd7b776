/- The reference's Mix: what it returns. -/
import Derived.Test.YthbcnieekpjhcaaDoorTimW
import Derived.Test.YthbcnieekpjhcaaDoorDown
import Derived.Deep.DeepCutAuto
set_option linter.unusedVariables false
set_option linter.unusedSimpArgs false
namespace Go.Proofs.YthbcnieekpjhcaaDoor.Wk
open Go Go.RowKit

def A64 : Int := 13234230157428861123
def B64 : Int := 11329751410908088055
/-- one letter -/
def stepH (h c : Int) : Int :=
  let g := bits .xor .u64 h c * B64 % 18446744073709551616
  bits .xor .u64 g (g / 2147483648)
/-- the letters from the k-th on -/
def runH (h : Int) (l : List UInt8) : Int := l.foldl (fun h c => stepH h c.toNat) h
def firstH (seed n : Int) : Int := bits .xor .u64 seed (A64 * n % 18446744073709551616)
def lastH (h : Int) : Int :=
  let g := bits .xor .u64 h (h / 536870912)
  let k := g * A64 % 18446744073709551616
  bits .xor .u64 k (k / 4294967296)

abbrev objA : Obj := .cells #[.int .i64 10435, .int .i64 53583, .int .i64 28213, .int .i64 47017] 30
abbrev objB : Obj := .cells #[.int .i64 18167, .int .i64 28840, .int .i64 23777, .int .i64 40251] 30

theorem aggA : Value.agg #[.int .i64 10435, .int .i64 53583, .int .i64 28213, .int .i64 47017] = agg4 A64 := by
  unfold agg4; congr <;> decide
theorem aggB : Value.agg #[.int .i64 18167, .int .i64 28840, .int .i64 23777, .int .i64 40251] = agg4 B64 := by
  unfold agg4; congr <;> decide

theorem call_in {f : Nat} {args : Array Value} {r : Ending} {n : Nat} {W x : World} (c : Calls Tryd.prog f args x fun e w' => e = r ∧ Below x.heap.size x w') (hW : n ≤ W.heap.size) (hx : Below n W x) :
    Calls Tryd.prog f args x fun e w' => e = r ∧ Below n W w' ∧ Hid (Below x.heap.size x w') :=
  c.mono fun _ _ h => ⟨h.1, hx.trans (h.2.mono (Nat.le_trans hW hx.size)), h.2⟩

def MixH (h : Int) (w : World) (v : Value) (wx : World) : Prop :=
  ∃ g, v = .pointer (some ⟨g, 0, none⟩) ∧ w.heap.size + 2 ≤ g ∧ Arr4 wx g (Pu.d0 h) (Pu.d1 h) (Pu.d2 h) (Pu.d3 h) ∧ Below (w.heap.size + 2) ((w.alloc objA).alloc objB) wx

theorem ab_cells {w x : World} (h : Below (w.heap.size + 2) ((w.alloc objA).alloc objB) x) : Arr4 x w.heap.size 10435 53583 28213 47017 ∧ Arr4 x (w.heap.size + 1) 18167 28840 23777 40251 :=
  ⟨((Arr4.new w).alloc _).kept h (by omega), (Arr4.newAt _ _ _ _ _ _ (by simp)).kept h (by omega)⟩

theorem times_callA (y : Int) (w : World) (hy : 0 ≤ y ∧ y < 18446744073709551616) :
    Calls Tryd.prog 10 #[.agg #[.int .i64 10435, .int .i64 53583, .int .i64 28213, .int .i64 47017], agg4 y] w fun e w' => e = .returned (agg4 (A64 * y % 18446744073709551616)) ∧ Below w.heap.size w w' := by
  rw [aggA]; exact times_call A64 y w (by unfold A64; omega) hy


theorem aggC (c : Int) (h0 : 0 ≤ c) (h1 : c < 65536) : Value.agg #[.int .i64 c, .int .i64 0, .int .i64 0, .int .i64 0] = agg4 c := by
  unfold agg4 Pu.d0 Pu.d1 Pu.d2 Pu.d3
  rw [show c % 65536 = c by omega, show c / 65536 % 65536 = 0 by omega, show c / 4294967296 % 65536 = 0 by omega, show c / 281474976710656 % 65536 = 0 by omega]
theorem xor_callC (x c : Int) (w : World) (hx : 0 ≤ x ∧ x < 18446744073709551616) (h0 : 0 ≤ c) (h1 : c < 65536) :
    Calls Tryd.prog 8 #[agg4 x, .agg #[.int .i64 c, .int .i64 0, .int .i64 0, .int .i64 0]] w fun e w' => e = .returned (agg4 (bits .xor .u64 x c)) ∧ Below w.heap.size w w' := by
  rw [aggC c h0 h1]; exact xor_call x c w hx (by omega)
theorem times_callB (x : Int) (w : World) (hx : 0 ≤ x ∧ x < 18446744073709551616) :
    Calls Tryd.prog 10 #[agg4 x, .agg #[.int .i64 18167, .int .i64 28840, .int .i64 23777, .int .i64 40251]] w fun e w' => e = .returned (agg4 (x * B64 % 18446744073709551616)) ∧ Below w.heap.size w w' := by
  rw [aggB]; exact times_call x B64 w hx (by unfold B64; omega)
theorem times_callA2 (x : Int) (w : World) (hx : 0 ≤ x ∧ x < 18446744073709551616) :
    Calls Tryd.prog 10 #[agg4 x, .agg #[.int .i64 10435, .int .i64 53583, .int .i64 28213, .int .i64 47017]] w fun e w' => e = .returned (agg4 (x * A64 % 18446744073709551616)) ∧ Below w.heap.size w w' := by
  rw [aggA]; exact times_call x A64 w hx (by unfold A64; omega)

def LoopR (h0 : Int) (l : List UInt8) (g : Nat) (w : World) (i : Value) (wr : World) : Prop :=
  ∃ (k : Nat) (H : Int), k ≤ l.length ∧ i = .int .i64 k ∧ (0 ≤ H ∧ H < 18446744073709551616) ∧ Arr4 wr g (Pu.d0 H) (Pu.d1 H) (Pu.d2 H) (Pu.d3 H) ∧ Below (w.heap.size + 2) ((w.alloc objA).alloc objB) wr ∧ H = runH h0 (l.take k)

def HasH (H : Int) (g : Nat) (w wx : World) : Prop := (0 ≤ H ∧ H < 18446744073709551616) ∧ Arr4 wx g (Pu.d0 H) (Pu.d1 H) (Pu.d2 H) (Pu.d3 H) ∧ Below (w.heap.size + 2) ((w.alloc objA).alloc objB) wx
theorem div_range (x d : Int) (hx : 0 ≤ x ∧ x < 18446744073709551616) (hd : 0 < d) : 0 ≤ x / d ∧ x / d < 18446744073709551616 := by
  refine ⟨Int.ediv_nonneg hx.1 (by omega), ?_⟩
  have := Int.ediv_le_self d hx.1
  omega
theorem mod_range (x : Int) : 0 ≤ x % 18446744073709551616 ∧ x % 18446744073709551616 < 18446744073709551616 := by omega

theorem firstH_range (seed n : Int) (h0 : 0 ≤ seed) (h1 : seed < 18446744073709551616) : 0 ≤ firstH seed n ∧ firstH seed n < 18446744073709551616 := Pu.xor_range _ _ ⟨h0, h1⟩ (by omega)

set_option maxHeartbeats 4000000 in
set_option maxRecDepth 100000 in
theorem mix_call (seed : Int) (s : ByteArray) (w : World) (h0 : 0 ≤ seed) (h1 : seed < 18446744073709551616) (hs : s.size ≤ 140737488351232) :
    Calls Tryd.prog 7 #[.int .u64 seed, .string s] w fun e w' => e = .returned (.int .u64 (lastH (runH (firstH seed (1 + s.size)) s.data.toList))) ∧ Below w.heap.size w w' := by
  have hW : w.heap.size + 2 ≤ ((w.alloc objA).alloc objB).heap.size := by simp
  have HSum := Lib.hid (show IntKind.u64.wrap (IntKind.i64.wrap (1 + (s.size : Int))) = 1 + s.size by rw [IntWalk.i64_in _ (by omega), IntWalk.u64_in _ (by omega)])
  have b0 : Below (w.heap.size + 2) ((w.alloc objA).alloc objB) ((w.alloc objA).alloc objB) := Below.refl _ _
  have hz : w.heap.size + 2 ≤ ((w.alloc objA).alloc objB).heap.size := hW
  go_enter Tryd.func7, Tryd.ntmps7
  go_upto_region 3 with fail
  go_cut [7] (fun s7 wx => MixH (firstH seed (1 + s.size)) w s7 wx)
  case first =>
    as_aux_lemma =>
      go_region_held3 (fun x => Below (w.heap.size + 2) ((w.alloc objA).alloc objB) x ∧ x.cell? ⟨w.heap.size, 0, none⟩ = some (.int .i64 10435) ∧ x.cell? ⟨w.heap.size, 1, none⟩ = some (.int .i64 53583) ∧ x.cell? ⟨w.heap.size, 2, none⟩ = some (.int .i64 28213) ∧ x.cell? ⟨w.heap.size, 3, none⟩ = some (.int .i64 47017))
        ((refine (fun h => ⟨h, (ab_cells h).1.c0, (ab_cells h).1.c1, (ab_cells h).1.c2, (ab_cells h).1.c3⟩) ?_; repeat (first | assumption | apply Below.drew | (refine Below.alloc ?_ (by assumption) _) | (refine Below.setCell ?_ (by first | assumption | exact Nat.le_refl _) _))))
        (first | (go_at_call 9; (try rw [HSum.out]); refine (call_in (digits_call _ _ (by omega) (by omega)) hW (by repeat (first | assumption | apply Below.drew | (refine Below.alloc ?_ (by assumption) _)))).mono ?_; rintro e wa ⟨rfl, ha, ka⟩; have hz := Nat.le_trans hW ha.size; (first | have hg := Arr4.kept (Arr4.new _) ka.out (by simp) | have hg := Arr4.kept (Arr4.new _).drew ka.out (by simp) | have hg := Arr4.kept ‹Arr4 _ _ 0 0 0 0› ka.out (Arr4.lt ‹_›) | skip); (try simp only [World.size_alloc] at hg); (try (have hg2 := hg; obtain ⟨g0, g1, g2, g3, gf⟩ := hg2; (try simp only [World.size_alloc] at g0 g1 g2 g3 gf)))) | (go_at_call 10; refine (call_in (times_callA _ _ (by omega)) hW (by repeat (first | assumption | apply Below.drew | (refine Below.alloc ?_ (by assumption) _)))).mono ?_; rintro e wb ⟨rfl, hb, kb⟩; have hz := Nat.le_trans hW hb.size; (first | have hg := Arr4.kept (Arr4.new _) kb.out (by simp) | have hg := Arr4.kept (Arr4.new _).drew kb.out (by simp) | have hg := Arr4.kept ‹Arr4 _ _ 0 0 0 0› kb.out (Arr4.lt ‹_›) | skip); (try simp only [World.size_alloc] at hg); (try (have hg2 := hg; obtain ⟨g0, g1, g2, g3, gf⟩ := hg2; (try simp only [World.size_alloc] at g0 g1 g2 g3 gf)))) | (go_at_call 8; refine (call_in (xor_call _ _ _ ⟨h0, h1⟩ (by omega)) hW (by repeat (first | assumption | apply Below.drew | (refine Below.alloc ?_ (by assumption) _)))).mono ?_; rintro e wc ⟨rfl, hc, kc⟩; unfold agg4; have hz := Nat.le_trans hW hc.size; (first | have hg := Arr4.kept (Arr4.new _) kc.out (by simp) | have hg := Arr4.kept (Arr4.new _).drew kc.out (by simp) | have hg := Arr4.kept ‹Arr4 _ _ 0 0 0 0› kc.out (Arr4.lt ‹_›) | skip); (try simp only [World.size_alloc] at hg); (try (have hg2 := hg; obtain ⟨g0, g1, g2, g3, gf⟩ := hg2; (try simp only [World.size_alloc] at g0 g1 g2 g3 gf)))))
      all_goals
        go_wp2_with fail
        go_meet
        refine ⟨_, rfl, (by first | assumption | exact Nat.le_refl _), ?_, (by repeat (first | assumption | apply Below.drew | (refine Below.alloc ?_ (by assumption) _) | (refine Below.setCell ?_ (by first | assumption | exact Nat.le_refl _) _)))⟩
        first | exact Arr4.new _ | exact (((‹Arr4 _ _ 0 0 0 0›.set0).set1).set2).set3
  case rest =>
    obtain ⟨g, rfl, hg, HA0, HB0⟩ := hcut
    have HA := Lib.hid HA0
    have HB := Lib.hid HB0
    clear HA0 HB0 b0 hz HSum
    have fr := firstH_range seed (1 + s.size) h0 h1
    have hsl : s.data.toList.length = s.size := by rw [Array.length_toList]; rfl
    have HL := Lib.hid hsl
    clear hsl
    obtain ⟨H0, hH0⟩ : ∃ H0, H0 = firstH seed (1 + s.size) := ⟨_, rfl⟩
    have HE := Lib.hid hH0
    rw [← hH0] at fr HA
    clear hH0
    go_wp2_with fail
    go_loopw [8] (fun i wr => LoopR H0 s.data.toList g w i wr) (fun i wr => s.size - (intOf i).toNat)
    case atStart => exact ⟨0, H0, Nat.zero_le _, rfl, fr, HA.out, HB.out, rfl⟩
    case round =>
      clear HA HB fr
      obtain ⟨k, H, hk0, rfl, hH, HA0, HB0, hH2⟩ := hrel
      rw [HL.out] at hk0
      have HA := Lib.hid HA0
      have HB := Lib.hid HB0
      have HH := Lib.hid hH2
      clear HA0 HB0 hH2
      obtain ⟨a0, a1, a2, a3, af⟩ := HA.out
      obtain ⟨q0, q1, q2, q3, qf⟩ := (ab_cells HB.out).2
      by_cases hlt : k < s.size
      · have HW := Lib.hid (show IntKind.i64.wrap ((s[k].toNat : Nat) : Int) = ((s[k].toNat : Nat) : Int) by have := UInt8.toNat_lt s[k]; exact IntWalk.i64_in _ (by omega))
        have HC := Lib.hid (show 0 ≤ ((s[k].toNat : Nat) : Int) ∧ ((s[k].toNat : Nat) : Int) < 256 by have := UInt8.toNat_lt s[k]; omega)
        have HS := Lib.hid (show runH H0 (s.data.toList.take (k + 1)) = stepH H s[k].toNat by
          rw [HH.out, runH, runH, List.take_succ_eq_append_getElem (by rw [HL.out]; exact hlt), List.foldl_append]; rfl)
        have hB1 := HB.out
        have x1 := Pu.xor_range H ((s[k].toNat : Nat) : Int) hH (by have := HC.out; omega)
        have X1 := Lib.hid x1
        clear x1
        go_upto_region 7 with fail
        go_cut [] (fun wx => HasH (bits .xor .u64 H ((s[k].toNat : Nat) : Int) * B64 % 18446744073709551616) g w wx)
        case first =>
          as_aux_lemma =>
            go_region_with (first | (go_at_call 8; rw [HW.out]; refine (call_in (xor_callC H _ _ hH HC.out.1 (by have := HC.out; omega)) hW (by repeat (first | assumption | apply Below.drew))).mono ?_; rintro e wa ⟨rfl, ha, ka⟩; have hg1 := HA.out.drew.kept ka.out HA.out.drew.lt; obtain ⟨p0, p1, p2, p3, pf⟩ := (ab_cells ha).2) | (go_at_call 10; refine (call_in (times_callB _ _ X1.out) hW (by repeat (first | assumption | apply Below.drew))).mono ?_; rintro e wb ⟨rfl, hb, kb⟩; unfold agg4; have hg2 := hg1.kept kb.out hg1.lt; have hg3 := hg2; obtain ⟨r0, r1, r2, r3, rf⟩ := hg3))
            all_goals
              go_wp2_with fail
              go_meet
              exact ⟨mod_range _, (((hg2.set0.set1).set2).set3), (((hb.setCell hg _).setCell hg _).setCell hg _).setCell hg _⟩
        case rest =>
          obtain ⟨hG, HA0, HB0⟩ := hcut
          clear HA HB hB1 a0 a1 a2 a3 af q0 q1 q2 q3 qf HW HC X1
          have HA := Lib.hid HA0
          clear HA0
          unfold stepH at HS
          generalize bits .xor .u64 H ((s[k].toNat : Nat) : Int) * B64 % 18446744073709551616 = G at *
          obtain ⟨a0, a1, a2, a3, af⟩ := HA.out
          have hD := div_range G 2147483648 hG (by omega)
          go_wp2_with fail
          go_region_with (first | (go_at_call 11; refine (call_in (down31 G _ hG) hW (by repeat (first | assumption | apply Below.drew))).mono ?_; rintro e wa ⟨rfl, ha, ka⟩; have hg1 := HA.out.drew.kept ka.out HA.out.drew.lt; have hg4 := hg1; obtain ⟨p0, p1, p2, p3, pf⟩ := hg4) | (go_at_call 8; refine (call_in (xor_call G _ _ hG hD) hW (by repeat (first | assumption | apply Below.drew))).mono ?_; rintro e wb ⟨rfl, hb, kb⟩; unfold agg4; have hg2 := hg1.kept kb.out hg1.lt; have hg3 := hg2; obtain ⟨r0, r1, r2, r3, rf⟩ := hg3))
          all_goals
            go_wp2_with fail
            exact ⟨⟨k + 1, _, by rw [HL.out]; omega, by go_num, Pu.xor_range _ _ hG hD, (((hg2.set0.set1).set2).set3), (((hb.setCell hg _).setCell hg _).setCell hg _).setCell hg _, HS.out.symm⟩, by simp [intOf]; omega⟩
      · obtain rfl : k = s.size := by omega
        have hH3 : runH H0 s.data.toList = H := by rw [HH.out, List.take_of_length_le (by rw [HL.out]; exact Nat.le_refl _)]
        have HF := Lib.hid (show lastH (runH H0 s.data.toList) = bits .xor .u64 (bits .xor .u64 H (H / 536870912) * A64 % 18446744073709551616) (bits .xor .u64 H (H / 536870912) * A64 % 18446744073709551616 / 4294967296) by rw [hH3]; rfl)
        clear hH3 HH HL
        clear q0 q1 q2 q3 qf hlt hk0
        have hD := div_range H 536870912 hH (by omega)
        have hB1 := HB.out
        go_upto_region 9 with fail
        go_cut [] (fun wx => HasH (bits .xor .u64 H (H / 536870912)) g w wx)
        case first =>
          as_aux_lemma =>
            go_region_with (first | (go_at_call 11; refine (call_in (down29 H _ hH) hW (by repeat (first | assumption | apply Below.drew))).mono ?_; rintro e wa ⟨rfl, ha, ka⟩; have hg1 := HA.out.drew.kept ka.out HA.out.drew.lt; have hg4 := hg1; obtain ⟨p0, p1, p2, p3, pf⟩ := hg4) | (go_at_call 8; refine (call_in (xor_call H _ _ hH hD) hW (by repeat (first | assumption | apply Below.drew))).mono ?_; rintro e wb ⟨rfl, hb, kb⟩; unfold agg4; have hg2 := hg1.kept kb.out hg1.lt; have hg3 := hg2; obtain ⟨r0, r1, r2, r3, rf⟩ := hg3))
            all_goals
              go_wp2_with fail
              go_meet
              exact ⟨Pu.xor_range _ _ hH hD, (((hg2.set0.set1).set2).set3), (((hb.setCell hg _).setCell hg _).setCell hg _).setCell hg _⟩
        case rest =>
          obtain ⟨hG, HA1, hB2⟩ := hcut
          clear HA HB hB1 a0 a1 a2 a3 af hH hD
          generalize bits .xor .u64 H (H / 536870912) = G at *
          have HA2 := Lib.hid HA1
          obtain ⟨a0, a1, a2, a3, af⟩ := HA2.out
          obtain ⟨q0, q1, q2, q3, qf⟩ := (ab_cells hB2).1
          clear HA1
          go_wp2_with fail
          refine (call_in (times_callA2 G _ hG) hW hB2).mono ?_
          rintro e wd ⟨rfl, hd, kd⟩
          unfold agg4
          have hg5 := HA2.out.kept kd.out HA2.out.lt
          have hg6 := hg5
          obtain ⟨s0, s1, s2, s3, sf⟩ := hg6
          clear a0 a1 a2 a3 af q0 q1 q2 q3 qf
          have hK := mod_range (G * A64)
          generalize G * A64 % 18446744073709551616 = K at *
          have hD := div_range K 4294967296 hK (by omega)
          go_upto_region 11 with fail
          have HA3 := (((hg5.set0 (y := Pu.d0 K)).set1 (y := Pu.d1 K)).set2 (y := Pu.d2 K)).set3 (y := Pu.d3 K)
          have hB3 : Below (w.heap.size + 2) ((w.alloc objA).alloc objB) ((((wd.setCell ⟨g, 0, none⟩ (.int .i64 (Pu.d0 K))).setCell ⟨g, 1, none⟩ (.int .i64 (Pu.d1 K))).setCell ⟨g, 2, none⟩ (.int .i64 (Pu.d2 K))).setCell ⟨g, 3, none⟩ (.int .i64 (Pu.d3 K))) := (((hd.setCell hg _).setCell hg _).setCell hg _).setCell hg _
          clear s0 s1 s2 s3 sf hg5
          generalize ((((wd.setCell ⟨g, 0, none⟩ (.int .i64 (Pu.d0 K))).setCell ⟨g, 1, none⟩ (.int .i64 (Pu.d1 K))).setCell ⟨g, 2, none⟩ (.int .i64 (Pu.d2 K))).setCell ⟨g, 3, none⟩ (.int .i64 (Pu.d3 K))) = we at *
          have HA4 := Lib.hid HA3
          obtain ⟨a0, a1, a2, a3, af⟩ := HA4.out
          clear HA3
          go_cut [] (fun wx => HasH (bits .xor .u64 K (K / 4294967296)) g w wx)
          case first =>
            as_aux_lemma =>
              go_region_with (first | (go_at_call 11; refine (call_in (down32 K _ hK) hW (by repeat (first | assumption | apply Below.drew))).mono ?_; rintro e wa ⟨rfl, ha, ka⟩; have hg1 := HA4.out.drew.kept ka.out HA4.out.drew.lt; have hg4 := hg1; obtain ⟨p0, p1, p2, p3, pf⟩ := hg4) | (go_at_call 8; refine (call_in (xor_call K _ _ hK hD) hW (by repeat (first | assumption | apply Below.drew))).mono ?_; rintro e wb ⟨rfl, hb, kb⟩; unfold agg4; have hg2 := hg1.kept kb.out hg1.lt; have hg3 := hg2; obtain ⟨r0, r1, r2, r3, rf⟩ := hg3))
              all_goals
                go_wp2_with fail
                go_meet
                exact ⟨Pu.xor_range _ _ hK hD, (((hg2.set0.set1).set2).set3), (((hb.setCell hg _).setCell hg _).setCell hg _).setCell hg _⟩
          case rest =>
            obtain ⟨hX, HA5, hB5⟩ := hcut
            clear a0 a1 a2 a3 af
            generalize bits .xor .u64 K (K / 4294967296) = X at *
            obtain ⟨a0, a1, a2, a3, af⟩ := HA5
            go_wp2_with fail
            refine (call_in (whole_call X _ hX) hW hB5).mono ?_
            rintro e wf ⟨rfl, hf, kf⟩
            go_wp2_with fail
            go_ret
            exact ⟨by rw [← HE.out, HF.out]; rfl, (((Below.refl w.heap.size w).alloc (Nat.le_refl _) _).alloc (by simp) _).trans (hf.mono (by omega))⟩
end Go.Proofs.YthbcnieekpjhcaaDoor.Wk
