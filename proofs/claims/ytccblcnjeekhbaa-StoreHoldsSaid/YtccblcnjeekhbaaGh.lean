/- holds (function 11): what it answers, and what it leaves of the lists that it writes over. Began as printed text; the ends of its two loops are mended. -/
import Derived.Test.YtccblcnjeekhbaaPStoreHoldsx0
import Derived.Test.YtccblcnjeekhbaaPStoreHoldsx1
import Derived.Test.YtccblcnjeekhbaaPStoreHoldsx3
namespace Go.Proofs.Ytccblcnjeekhbaa.PStoreHolds
open Go.RowKit Go.Proofs.YtccblcnjeekhbaaW.PrintWords Go.Proofs.YtccblcnjeekhbaaW.PrintLast Go.Proofs.YtccblcnjeekhbaaW.PrintMore
attribute [local go_sem] max2_int min2_int max_two min_two max_three min_three max_four min_four   -- for this text's walks alone
set_option linter.unusedVariables false
set_option linter.unusedSimpArgs false

attribute [local go_sem high] eqA41 eqA47
/-! ### larderlaw14_holds: function 11 -/
mutual
def larderlaw14_holds.j0 : Nat → Bool → List (S41) → Int → List (S47) → List (S41) → Int → List (S47) → Option (Bool × (List (S41)) × (List (S47)))
  | 0, _, _, _, _, _, _, _ => none
  | k + 1, x29, x194000, x194001, x194002, x195000, x195001, x195002 => if x29 = true then (some (false, x194000, x194002)) else (larderlaw14_holds.l0 k (x194000.length : Int) 0 x194000 x194001 x194002 x195000 x195001 x195002)
def larderlaw14_holds.l0 : Nat → Int → Int → List (S41) → Int → List (S47) → List (S41) → Int → List (S47) → Option (Bool × (List (S41)) × (List (S47)))
  | 0, _, _, _, _, _, _, _, _ => none
  | k + 1, x32, x33, x194000, x194001, x194002, x195000, x195001, x195002 => if x33 < x32 then (if 0 ≤ x33 then (if x33 < (x194000.length : Int) then (if x33 < (x195000.length : Int) then (if (!((((rd_T41 x194000 x33).f0).toList) == (((rd_T41 x195000 x33).f0).toList)) || (!(((rd_T41 x194000 x33).f1) == ((rd_T41 x195000 x33).f1)))) = true then (some (false, x194000, x194002)) else (larderlaw14_holds.l0 k x32 (wrap64 (x33 + 1)) (x194000.set (x33 : Int).toNat (⟨(⟨#[119, 114, 105, 116, 116, 101, 110, 32, 111, 118, 101, 114]⟩ : ByteArray), 9⟩ : S41)) x194001 x194002 x195000 x195001 x195002)) else (none)) else (none)) else (none)) else (larderlaw14_holds.l1 k (x194002.length : Int) 0 x194000 x194001 x194002 x195000 x195001 x195002)
def larderlaw14_holds.l1 : Nat → Int → Int → List (S41) → Int → List (S47) → List (S41) → Int → List (S47) → Option (Bool × (List (S41)) × (List (S47)))
  | 0, _, _, _, _, _, _, _, _ => none
  | k + 1, x55, x56, x194000, x194001, x194002, x195000, x195001, x195002 => if x56 < x55 then (if 0 ≤ x56 then (if x56 < (x194002.length : Int) then (if x56 < (x195002.length : Int) then (if (!(((rd_T47 x194002 x56).f0) == ((rd_T47 x195002 x56).f0)) || ((!(((rd_T47 x194002 x56).f1.f0) == ((rd_T47 x195002 x56).f1.f0)) || ((!(((rd_T47 x194002 x56).f1.f1.f0) == ((rd_T47 x195002 x56).f1.f1.f0)) || (!(((rd_T47 x194002 x56).f1.f1.f1) == ((rd_T47 x195002 x56).f1.f1.f1)) || (!(((rd_T47 x194002 x56).f1.f1.f2) == ((rd_T47 x195002 x56).f1.f1.f2)) || (!(((rd_T47 x194002 x56).f1.f1.f3) == ((rd_T47 x195002 x56).f1.f1.f3)) || (!(((rd_T47 x194002 x56).f1.f1.f4) == ((rd_T47 x195002 x56).f1.f1.f4)) || (!(((rd_T47 x194002 x56).f1.f1.f5) == ((rd_T47 x195002 x56).f1.f1.f5)) || (!(((rd_T47 x194002 x56).f1.f1.f6) == ((rd_T47 x195002 x56).f1.f1.f6)) || (!(((rd_T47 x194002 x56).f1.f1.f7) == ((rd_T47 x195002 x56).f1.f1.f7)) || (!(((rd_T47 x194002 x56).f1.f1.f8) == ((rd_T47 x195002 x56).f1.f1.f8))))))))))))))) = true then (some (false, x194000, x194002)) else (larderlaw14_holds.l1 k x55 (wrap64 (x56 + 1)) x194000 x194001 (x194002.set (x56 : Int).toNat (⟨(-1), (⟨0, (⟨0, 0, 0, 0, 0, 0, 0, 0, 0⟩ : S43)⟩ : S45)⟩ : S47)) x195000 x195001 x195002)) else (none)) else (none)) else (none)) else (some (true, x194000, x194002))
end
def larderlaw14_holds.f (k : Nat) (l0_0 : List (S41)) (a0_1 : Int) (l0_2 : List (S47)) (l1_0 : List (S41)) (a1_1 : Int) (l1_2 : List (S47)) : Option (Bool × (List (S41)) × (List (S47))) := if a0_1 = a1_1 then (if (l0_0.length : Int) = (l1_0.length : Int) then (larderlaw14_holds.j0 k ((l0_2.length : Int) != (l1_2.length : Int)) l0_0 a0_1 l0_2 l1_0 a1_1 l1_2) else (larderlaw14_holds.j0 k true l0_0 a0_1 l0_2 l1_0 a1_1 l1_2)) else (larderlaw14_holds.j0 k true l0_0 a0_1 l0_2 l1_0 a1_1 l1_2)
theorem larderlaw14_holds.mono_l : ∀ k, (∀ y0 y1 y2 y3 y4 y5 y6, LeO (larderlaw14_holds.j0 k y0 y1 y2 y3 y4 y5 y6) (larderlaw14_holds.j0 (k + 1) y0 y1 y2 y3 y4 y5 y6)) ∧ (∀ y0 y1 y2 y3 y4 y5 y6 y7, LeO (larderlaw14_holds.l0 k y0 y1 y2 y3 y4 y5 y6 y7) (larderlaw14_holds.l0 (k + 1) y0 y1 y2 y3 y4 y5 y6 y7)) ∧ (∀ y0 y1 y2 y3 y4 y5 y6 y7, LeO (larderlaw14_holds.l1 k y0 y1 y2 y3 y4 y5 y6 y7) (larderlaw14_holds.l1 (k + 1) y0 y1 y2 y3 y4 y5 y6 y7))
  | 0 => ⟨fun _ _ _ _ _ _ _ r h => by simp [larderlaw14_holds.j0] at h, fun _ _ _ _ _ _ _ _ r h => by simp [larderlaw14_holds.l0] at h, fun _ _ _ _ _ _ _ _ r h => by simp [larderlaw14_holds.l1] at h⟩
  | k + 1 => by
    obtain ⟨ih0, ih1, ih2⟩ := larderlaw14_holds.mono_l k
    refine ⟨?_, ?_, ?_⟩
    · intro y0 y1 y2 y3 y4 y5 y6
      unfold larderlaw14_holds.j0
      repeat' first
      | (with_reducible exact ih0 _ _ _ _ _ _ _)
      | (with_reducible exact ih1 _ _ _ _ _ _ _ _)
      | (with_reducible exact ih2 _ _ _ _ _ _ _ _)
      | (with_reducible exact LeO.refl _)
      | (with_reducible exact LeO.none _)
      | (with_reducible refine LeO.ite ?_ ?_)
      | (with_reducible refine LeO.bind ?_ (fun _ => ?_))
      | exact ih0 _ _ _ _ _ _ _
      | exact ih1 _ _ _ _ _ _ _ _
      | exact ih2 _ _ _ _ _ _ _ _
      | exact LeO.none _
      | refine LeO.ite ?_ ?_
      | refine LeO.bind ?_ (fun _ => ?_)
    · intro y0 y1 y2 y3 y4 y5 y6 y7
      unfold larderlaw14_holds.l0
      repeat' first
      | (with_reducible exact ih0 _ _ _ _ _ _ _)
      | (with_reducible exact ih1 _ _ _ _ _ _ _ _)
      | (with_reducible exact ih2 _ _ _ _ _ _ _ _)
      | (with_reducible exact LeO.refl _)
      | (with_reducible exact LeO.none _)
      | (with_reducible refine LeO.ite ?_ ?_)
      | (with_reducible refine LeO.bind ?_ (fun _ => ?_))
      | exact ih0 _ _ _ _ _ _ _
      | exact ih1 _ _ _ _ _ _ _ _
      | exact ih2 _ _ _ _ _ _ _ _
      | exact LeO.none _
      | refine LeO.ite ?_ ?_
      | refine LeO.bind ?_ (fun _ => ?_)
    · intro y0 y1 y2 y3 y4 y5 y6 y7
      unfold larderlaw14_holds.l1
      repeat' first
      | (with_reducible exact ih0 _ _ _ _ _ _ _)
      | (with_reducible exact ih1 _ _ _ _ _ _ _ _)
      | (with_reducible exact ih2 _ _ _ _ _ _ _ _)
      | (with_reducible exact LeO.refl _)
      | (with_reducible exact LeO.none _)
      | (with_reducible refine LeO.ite ?_ ?_)
      | (with_reducible refine LeO.bind ?_ (fun _ => ?_))
      | exact ih0 _ _ _ _ _ _ _
      | exact ih1 _ _ _ _ _ _ _ _
      | exact ih2 _ _ _ _ _ _ _ _
      | exact LeO.none _
      | refine LeO.ite ?_ ?_
      | refine LeO.bind ?_ (fun _ => ?_)
theorem larderlaw14_holds.mono : ∀ a0 a1 a2 a3 a4 a5 k, LeO (larderlaw14_holds.f k a0 a1 a2 a3 a4 a5) (larderlaw14_holds.f (k + 1) a0 a1 a2 a3 a4 a5) := by
  intro a0 a1 a2 a3 a4 a5 k
  obtain ⟨ih0, ih1, ih2⟩ := larderlaw14_holds.mono_l k
  unfold larderlaw14_holds.f
  repeat' first
      | (with_reducible exact ih0 _ _ _ _ _ _ _)
      | (with_reducible exact ih1 _ _ _ _ _ _ _ _)
      | (with_reducible exact ih2 _ _ _ _ _ _ _ _)
      | (with_reducible exact LeO.refl _)
      | (with_reducible exact LeO.none _)
      | (with_reducible refine LeO.ite ?_ ?_)
      | (with_reducible refine LeO.bind ?_ (fun _ => ?_))
      | exact ih0 _ _ _ _ _ _ _
      | exact ih1 _ _ _ _ _ _ _ _
      | exact ih2 _ _ _ _ _ _ _ _
      | exact LeO.none _
      | refine LeO.ite ?_ ?_
      | refine LeO.bind ?_ (fun _ => ?_)
set_option maxHeartbeats 8000000 in
set_option maxRecDepth 100000 in
theorem larderlaw14_holds.calls (k : Nat) (P0_0_ : Nat → Prop) (u9000_ : Value) (l0_0 : List (S41)) (a0_1 : Int) (P0_2_ : Nat → Prop) (u9001_ : Value) (l0_2 : List (S47)) (A1_0 : Option Addr) (c1_0 : Nat) (l1_0 : List (S41)) (a1_1 : Int) (A1_2 : Option Addr) (c1_2 : Nat) (l1_2 : List (S47)) (r1 : Bool) (r2 : List (S41)) (r3 : List (S47)) (w0 w : World) (hB : Below w0.heap.size w0 w) (ho0_0 : Kd.R k41 41 w w0.heap.size P0_0_ u9000_ l0_0) (ho0_2 : Kd.R k47 47 w w0.heap.size P0_2_ u9001_ l0_2) (hr1_0 : ∀ W_, Kept w W_ (fun k_ => P0_0_ k_ ∨ P0_2_ k_) → Kd.C k41 W_ A1_0 l1_0.length l1_0) (hc1_0 : l1_0.length ≤ c1_0) (hr1_2 : ∀ W_, Kept w W_ (fun k_ => P0_0_ k_ ∨ P0_2_ k_) → Kd.C k47 W_ A1_2 l1_2.length l1_2) (hc1_2 : l1_2.length ≤ c1_2) (h : larderlaw14_holds.f k l0_0 a0_1 l0_2 l1_0 a1_1 l1_2 = some (r1, r2, r3)) :
    Calls Try.prog 11 #[.agg #[u9000_, .int .i64 a0_1, u9001_], .agg #[.slice A1_0 l1_0.length c1_0, .int .i64 a1_1, .slice A1_2 l1_2.length c1_2]] w fun e w' => e = .returned (.bool r1) ∧ Kd.R k41 41 w' w0.heap.size (fun k_ => ((P0_0_ k_ ∨ P0_2_ k_) ∨ w.heap.size ≤ k_)) u9000_ r2 ∧ Kd.R k47 47 w' w0.heap.size (fun k_ => ((P0_0_ k_ ∨ P0_2_ k_) ∨ w.heap.size ≤ k_)) u9001_ r3 ∧ Below w0.heap.size w0 w' ∧ Kept w w' (fun k_ => P0_0_ k_ ∨ P0_2_ k_) := by
  have hu26 := Try.underlying26
  have hu41 := Try.underlying41
  have hu47 := Try.underlying47
  have HO0_0 := Aside0.mk (show Kd.R k41 41 w w0.heap.size (fun k_ => ((P0_0_ k_ ∨ P0_2_ k_) ∨ w.heap.size ≤ k_)) u9000_ l0_0 from Kd.R_mono ho0_0 (fun k_ hk => (.inl (.inl hk))))
  have HO0_2 := Aside0.mk (show Kd.R k47 47 w w0.heap.size (fun k_ => ((P0_0_ k_ ∨ P0_2_ k_) ∨ w.heap.size ≤ k_)) u9001_ l0_2 from Kd.R_mono ho0_2 (fun k_ hk => (.inl (.inr hk))))
  have HR1_0 := Aside0.mk hr1_0
  have HC1_0 := Aside0.mk hc1_0
  clear hr1_0 hc1_0
  have HR1_2 := Aside0.mk hr1_2
  have HC1_2 := Aside0.mk hc1_2
  clear hr1_2 hc1_2
  have HK := Aside0.mk (Kept.refl w (fun k_ => P0_0_ k_ ∨ P0_2_ k_))
  have HW0 := Aside0.mk hB.size
  have HB := Aside0.mk hB
  clear hB
  have H : (if a0_1 = a1_1 then (if (l0_0.length : Int) = (l1_0.length : Int) then (larderlaw14_holds.j0 k ((l0_2.length : Int) != (l1_2.length : Int)) l0_0 a0_1 l0_2 l1_0 a1_1 l1_2) else (larderlaw14_holds.j0 k true l0_0 a0_1 l0_2 l1_0 a1_1 l1_2)) else (larderlaw14_holds.j0 k true l0_0 a0_1 l0_2 l1_0 a1_1 l1_2)) = some (r1, r2, r3) := h
  clear h
  have HC3 := Aside0.mk H
  clear H
  obtain ⟨Ao4, co4, eo4⟩ := Kd.R_slice HO0_0.out
  subst eo4
  obtain ⟨Ao5, co5, eo5⟩ := Kd.R_slice HO0_2.out
  subst eo5
  go_enter Try.func11, Try.ntmps11
  go_upto_region 1 with (first | ((with_reducible refine gate_dst (N := 2) rfl ?_); (try (refine gate_guard (by rfl) ?_; dsimp only)); refine box_event ?hg (N := 2) ?hd (cs := #[.slice Ao4 l0_0.length co4, .int .i64 a0_1, .slice Ao5 l0_2.length co5]) (t := 26) ?hr ?_; (case hd => rfl); (case hg => rfl); (case hr => first | (go_simp; done) | (go_simp; rfl)); intro gb193 hg w6 hbox hb; have n0_ := Aside0.mk (Kd.R_below (by (with_reducible repeat (first | apply Kd.R_alloc | apply Kd.R_drewN | apply Kd.R_drew)); exact HO0_0.out) hb); have n1_ := Aside0.mk (Kd.R_below (by (with_reducible repeat (first | apply Kd.R_alloc | apply Kd.R_drewN | apply Kd.R_drew)); exact HO0_2.out) hb); have n2_ := Aside0.mk (Kept.below (S := (fun k_ => P0_0_ k_ ∨ P0_2_ k_)) (by repeat (first | (with_reducible first | exact HK.out | apply Kept.alloc | apply Kept.drewN | apply Kept.drew) | exact HK.out)) hb); have n3_ := Aside0.mk (below_step (by repeat (first | (with_reducible first | exact HB.out | apply below_alloc | apply pw_below_drewN | apply below_drew1) | exact HB.out)) hb); have n4_ := Aside0.mk (hbox); have n5_ := Aside0.mk ((by rw [hg]; exact (by first | exact HK.out.1 | exact (show Kept w _ (fun k_ => P0_0_ k_ ∨ P0_2_ k_) from by repeat (first | (with_reducible first | exact HK.out | apply Kept.alloc | apply Kept.drewN | apply Kept.drew) | exact HK.out)).1) : w.heap.size ≤ gb193)); have n6_ := Aside0.mk ((by rw [hg]; exact (below_size (by repeat (first | (with_reducible first | exact HB.out | apply below_alloc | apply pw_below_drewN | apply below_drew1) | exact HB.out))) : w0.heap.size ≤ gb193)); clear HO0_0; clear HO0_2; clear HK; clear HB; have HO0_0 := n0_; have HO0_2 := n1_; have HK := n2_; have HB := n3_; have BK193 := n4_; have GW193 := n5_; have GE193 := n6_; clear n0_ n1_ n2_ n3_ n4_ n5_ n6_; clear hb hbox hg) | ((with_reducible refine gate_dst (N := 3) rfl ?_); (try (refine gate_guard (by rfl) ?_; dsimp only)); refine box_event ?hg (N := 3) ?hd (cs := #[.slice A1_0 l1_0.length c1_0, .int .i64 a1_1, .slice A1_2 l1_2.length c1_2]) (t := 26) ?hr ?_; (case hd => rfl); (case hg => rfl); (case hr => first | (go_simp; done) | (go_simp; rfl)); intro gb194 hg w7 hbox hb; have n0_ := Aside0.mk (Kd.R_below (by (with_reducible repeat (first | apply Kd.R_alloc | apply Kd.R_drewN | apply Kd.R_drew)); exact HO0_0.out) hb); have n1_ := Aside0.mk (Kd.R_below (by (with_reducible repeat (first | apply Kd.R_alloc | apply Kd.R_drewN | apply Kd.R_drew)); exact HO0_2.out) hb); have n2_ := Aside0.mk (blk_below (g := gb193) (o := .cells #[.slice Ao4 l0_0.length co4, .int .i64 a0_1, .slice Ao5 l0_2.length co5] 26 (0, 0)) (by (with_reducible repeat (first | refine blk_drewN ?_ _ | refine blk_drew ?_ | refine blk_alloc ?_ _)); exact BK193.out) hb); have n3_ := Aside0.mk (Kept.below (S := (fun k_ => P0_0_ k_ ∨ P0_2_ k_)) (by repeat (first | (with_reducible first | exact HK.out | apply Kept.alloc | apply Kept.drewN | apply Kept.drew | refine Kept.setCell ?_ (.inr GW193.out) _) | exact HK.out)) hb); have n4_ := Aside0.mk (below_step (by repeat (first | (with_reducible first | exact HB.out | apply below_alloc | apply pw_below_drewN | apply below_drew1 | refine below_set ?_ GE193.out) | exact HB.out)) hb); have n5_ := Aside0.mk (hbox); have n6_ := Aside0.mk ((by rw [hg]; exact (by first | exact HK.out.1 | exact (show Kept w _ (fun k_ => P0_0_ k_ ∨ P0_2_ k_) from by repeat (first | (with_reducible first | exact HK.out | apply Kept.alloc | apply Kept.drewN | apply Kept.drew | refine Kept.setCell ?_ (.inr GW193.out) _) | exact HK.out)).1) : w.heap.size ≤ gb194)); have n7_ := Aside0.mk ((by rw [hg]; exact (below_size (by repeat (first | (with_reducible first | exact HB.out | apply below_alloc | apply pw_below_drewN | apply below_drew1 | refine below_set ?_ GE193.out) | exact HB.out))) : w0.heap.size ≤ gb194)); have n8_ := Aside0.mk ((by rw [hg]; exact Nat.ne_of_lt (blk_lt (g := gb193) (o := .cells #[.slice Ao4 l0_0.length co4, .int .i64 a0_1, .slice Ao5 l0_2.length co5] 26 (0, 0)) (by (with_reducible repeat (first | refine blk_drewN ?_ _ | refine blk_drew ?_ | refine blk_alloc ?_ _)); exact BK193.out)) : gb193 ≠ gb194)); have n9_ := Aside0.mk ((by rw [hg]; exact Nat.ne_of_gt (blk_lt (g := gb193) (o := .cells #[.slice Ao4 l0_0.length co4, .int .i64 a0_1, .slice Ao5 l0_2.length co5] 26 (0, 0)) (by (with_reducible repeat (first | refine blk_drewN ?_ _ | refine blk_drew ?_ | refine blk_alloc ?_ _)); exact BK193.out)) : gb194 ≠ gb193)); clear HO0_0; clear HO0_2; clear BK193; clear HK; clear HB; have HO0_0 := n0_; have HO0_2 := n1_; have BK193 := n2_; have HK := n3_; have HB := n4_; have BK194 := n5_; have GW194 := n6_; have GE194 := n7_; have NB193_194 := n8_; have NB194_193 := n9_; clear n0_ n1_ n2_ n3_ n4_ n5_ n6_ n7_ n8_ n9_; clear hb hbox hg))
  repeat (go_quiet (first | ((with_reducible refine gate_dst (N := 2) rfl ?_); (try (refine gate_guard (by rfl) ?_; dsimp only)); refine box_event ?hg (N := 2) ?hd (cs := #[.slice Ao4 l0_0.length co4, .int .i64 a0_1, .slice Ao5 l0_2.length co5]) (t := 26) ?hr ?_; (case hd => rfl); (case hg => rfl); (case hr => first | (go_simp; done) | (go_simp; rfl)); intro gb193 hg w6 hbox hb; have n0_ := Aside0.mk (Kd.R_below (by (with_reducible repeat (first | apply Kd.R_alloc | apply Kd.R_drewN | apply Kd.R_drew)); exact HO0_0.out) hb); have n1_ := Aside0.mk (Kd.R_below (by (with_reducible repeat (first | apply Kd.R_alloc | apply Kd.R_drewN | apply Kd.R_drew)); exact HO0_2.out) hb); have n2_ := Aside0.mk (Kept.below (S := (fun k_ => P0_0_ k_ ∨ P0_2_ k_)) (by repeat (first | (with_reducible first | exact HK.out | apply Kept.alloc | apply Kept.drewN | apply Kept.drew) | exact HK.out)) hb); have n3_ := Aside0.mk (below_step (by repeat (first | (with_reducible first | exact HB.out | apply below_alloc | apply pw_below_drewN | apply below_drew1) | exact HB.out)) hb); have n4_ := Aside0.mk (hbox); have n5_ := Aside0.mk ((by rw [hg]; exact (by first | exact HK.out.1 | exact (show Kept w _ (fun k_ => P0_0_ k_ ∨ P0_2_ k_) from by repeat (first | (with_reducible first | exact HK.out | apply Kept.alloc | apply Kept.drewN | apply Kept.drew) | exact HK.out)).1) : w.heap.size ≤ gb193)); have n6_ := Aside0.mk ((by rw [hg]; exact (below_size (by repeat (first | (with_reducible first | exact HB.out | apply below_alloc | apply pw_below_drewN | apply below_drew1) | exact HB.out))) : w0.heap.size ≤ gb193)); clear HO0_0; clear HO0_2; clear HK; clear HB; have HO0_0 := n0_; have HO0_2 := n1_; have HK := n2_; have HB := n3_; have BK193 := n4_; have GW193 := n5_; have GE193 := n6_; clear n0_ n1_ n2_ n3_ n4_ n5_ n6_; clear hb hbox hg) | ((with_reducible refine gate_dst (N := 3) rfl ?_); (try (refine gate_guard (by rfl) ?_; dsimp only)); refine box_event ?hg (N := 3) ?hd (cs := #[.slice A1_0 l1_0.length c1_0, .int .i64 a1_1, .slice A1_2 l1_2.length c1_2]) (t := 26) ?hr ?_; (case hd => rfl); (case hg => rfl); (case hr => first | (go_simp; done) | (go_simp; rfl)); intro gb194 hg w7 hbox hb; have n0_ := Aside0.mk (Kd.R_below (by (with_reducible repeat (first | apply Kd.R_alloc | apply Kd.R_drewN | apply Kd.R_drew)); exact HO0_0.out) hb); have n1_ := Aside0.mk (Kd.R_below (by (with_reducible repeat (first | apply Kd.R_alloc | apply Kd.R_drewN | apply Kd.R_drew)); exact HO0_2.out) hb); have n2_ := Aside0.mk (blk_below (g := gb193) (o := .cells #[.slice Ao4 l0_0.length co4, .int .i64 a0_1, .slice Ao5 l0_2.length co5] 26 (0, 0)) (by (with_reducible repeat (first | refine blk_drewN ?_ _ | refine blk_drew ?_ | refine blk_alloc ?_ _)); exact BK193.out) hb); have n3_ := Aside0.mk (Kept.below (S := (fun k_ => P0_0_ k_ ∨ P0_2_ k_)) (by repeat (first | (with_reducible first | exact HK.out | apply Kept.alloc | apply Kept.drewN | apply Kept.drew | refine Kept.setCell ?_ (.inr GW193.out) _) | exact HK.out)) hb); have n4_ := Aside0.mk (below_step (by repeat (first | (with_reducible first | exact HB.out | apply below_alloc | apply pw_below_drewN | apply below_drew1 | refine below_set ?_ GE193.out) | exact HB.out)) hb); have n5_ := Aside0.mk (hbox); have n6_ := Aside0.mk ((by rw [hg]; exact (by first | exact HK.out.1 | exact (show Kept w _ (fun k_ => P0_0_ k_ ∨ P0_2_ k_) from by repeat (first | (with_reducible first | exact HK.out | apply Kept.alloc | apply Kept.drewN | apply Kept.drew | refine Kept.setCell ?_ (.inr GW193.out) _) | exact HK.out)).1) : w.heap.size ≤ gb194)); have n7_ := Aside0.mk ((by rw [hg]; exact (below_size (by repeat (first | (with_reducible first | exact HB.out | apply below_alloc | apply pw_below_drewN | apply below_drew1 | refine below_set ?_ GE193.out) | exact HB.out))) : w0.heap.size ≤ gb194)); have n8_ := Aside0.mk ((by rw [hg]; exact Nat.ne_of_lt (blk_lt (g := gb193) (o := .cells #[.slice Ao4 l0_0.length co4, .int .i64 a0_1, .slice Ao5 l0_2.length co5] 26 (0, 0)) (by (with_reducible repeat (first | refine blk_drewN ?_ _ | refine blk_drew ?_ | refine blk_alloc ?_ _)); exact BK193.out)) : gb193 ≠ gb194)); have n9_ := Aside0.mk ((by rw [hg]; exact Nat.ne_of_gt (blk_lt (g := gb193) (o := .cells #[.slice Ao4 l0_0.length co4, .int .i64 a0_1, .slice Ao5 l0_2.length co5] 26 (0, 0)) (by (with_reducible repeat (first | refine blk_drewN ?_ _ | refine blk_drew ?_ | refine blk_alloc ?_ _)); exact BK193.out)) : gb194 ≠ gb193)); clear HO0_0; clear HO0_2; clear BK193; clear HK; clear HB; have HO0_0 := n0_; have HO0_2 := n1_; have BK193 := n2_; have HK := n3_; have HB := n4_; have BK194 := n5_; have GW194 := n6_; have GE194 := n7_; have NB193_194 := n8_; have NB194_193 := n9_; clear n0_ n1_ n2_ n3_ n4_ n5_ n6_ n7_ n8_ n9_; clear hb hbox hg)); go_upto_region 1 with (first | ((with_reducible refine gate_dst (N := 2) rfl ?_); (try (refine gate_guard (by rfl) ?_; dsimp only)); refine box_event ?hg (N := 2) ?hd (cs := #[.slice Ao4 l0_0.length co4, .int .i64 a0_1, .slice Ao5 l0_2.length co5]) (t := 26) ?hr ?_; (case hd => rfl); (case hg => rfl); (case hr => first | (go_simp; done) | (go_simp; rfl)); intro gb193 hg w6 hbox hb; have n0_ := Aside0.mk (Kd.R_below (by (with_reducible repeat (first | apply Kd.R_alloc | apply Kd.R_drewN | apply Kd.R_drew)); exact HO0_0.out) hb); have n1_ := Aside0.mk (Kd.R_below (by (with_reducible repeat (first | apply Kd.R_alloc | apply Kd.R_drewN | apply Kd.R_drew)); exact HO0_2.out) hb); have n2_ := Aside0.mk (Kept.below (S := (fun k_ => P0_0_ k_ ∨ P0_2_ k_)) (by repeat (first | (with_reducible first | exact HK.out | apply Kept.alloc | apply Kept.drewN | apply Kept.drew) | exact HK.out)) hb); have n3_ := Aside0.mk (below_step (by repeat (first | (with_reducible first | exact HB.out | apply below_alloc | apply pw_below_drewN | apply below_drew1) | exact HB.out)) hb); have n4_ := Aside0.mk (hbox); have n5_ := Aside0.mk ((by rw [hg]; exact (by first | exact HK.out.1 | exact (show Kept w _ (fun k_ => P0_0_ k_ ∨ P0_2_ k_) from by repeat (first | (with_reducible first | exact HK.out | apply Kept.alloc | apply Kept.drewN | apply Kept.drew) | exact HK.out)).1) : w.heap.size ≤ gb193)); have n6_ := Aside0.mk ((by rw [hg]; exact (below_size (by repeat (first | (with_reducible first | exact HB.out | apply below_alloc | apply pw_below_drewN | apply below_drew1) | exact HB.out))) : w0.heap.size ≤ gb193)); clear HO0_0; clear HO0_2; clear HK; clear HB; have HO0_0 := n0_; have HO0_2 := n1_; have HK := n2_; have HB := n3_; have BK193 := n4_; have GW193 := n5_; have GE193 := n6_; clear n0_ n1_ n2_ n3_ n4_ n5_ n6_; clear hb hbox hg) | ((with_reducible refine gate_dst (N := 3) rfl ?_); (try (refine gate_guard (by rfl) ?_; dsimp only)); refine box_event ?hg (N := 3) ?hd (cs := #[.slice A1_0 l1_0.length c1_0, .int .i64 a1_1, .slice A1_2 l1_2.length c1_2]) (t := 26) ?hr ?_; (case hd => rfl); (case hg => rfl); (case hr => first | (go_simp; done) | (go_simp; rfl)); intro gb194 hg w7 hbox hb; have n0_ := Aside0.mk (Kd.R_below (by (with_reducible repeat (first | apply Kd.R_alloc | apply Kd.R_drewN | apply Kd.R_drew)); exact HO0_0.out) hb); have n1_ := Aside0.mk (Kd.R_below (by (with_reducible repeat (first | apply Kd.R_alloc | apply Kd.R_drewN | apply Kd.R_drew)); exact HO0_2.out) hb); have n2_ := Aside0.mk (blk_below (g := gb193) (o := .cells #[.slice Ao4 l0_0.length co4, .int .i64 a0_1, .slice Ao5 l0_2.length co5] 26 (0, 0)) (by (with_reducible repeat (first | refine blk_drewN ?_ _ | refine blk_drew ?_ | refine blk_alloc ?_ _)); exact BK193.out) hb); have n3_ := Aside0.mk (Kept.below (S := (fun k_ => P0_0_ k_ ∨ P0_2_ k_)) (by repeat (first | (with_reducible first | exact HK.out | apply Kept.alloc | apply Kept.drewN | apply Kept.drew | refine Kept.setCell ?_ (.inr GW193.out) _) | exact HK.out)) hb); have n4_ := Aside0.mk (below_step (by repeat (first | (with_reducible first | exact HB.out | apply below_alloc | apply pw_below_drewN | apply below_drew1 | refine below_set ?_ GE193.out) | exact HB.out)) hb); have n5_ := Aside0.mk (hbox); have n6_ := Aside0.mk ((by rw [hg]; exact (by first | exact HK.out.1 | exact (show Kept w _ (fun k_ => P0_0_ k_ ∨ P0_2_ k_) from by repeat (first | (with_reducible first | exact HK.out | apply Kept.alloc | apply Kept.drewN | apply Kept.drew | refine Kept.setCell ?_ (.inr GW193.out) _) | exact HK.out)).1) : w.heap.size ≤ gb194)); have n7_ := Aside0.mk ((by rw [hg]; exact (below_size (by repeat (first | (with_reducible first | exact HB.out | apply below_alloc | apply pw_below_drewN | apply below_drew1 | refine below_set ?_ GE193.out) | exact HB.out))) : w0.heap.size ≤ gb194)); have n8_ := Aside0.mk ((by rw [hg]; exact Nat.ne_of_lt (blk_lt (g := gb193) (o := .cells #[.slice Ao4 l0_0.length co4, .int .i64 a0_1, .slice Ao5 l0_2.length co5] 26 (0, 0)) (by (with_reducible repeat (first | refine blk_drewN ?_ _ | refine blk_drew ?_ | refine blk_alloc ?_ _)); exact BK193.out)) : gb193 ≠ gb194)); have n9_ := Aside0.mk ((by rw [hg]; exact Nat.ne_of_gt (blk_lt (g := gb193) (o := .cells #[.slice Ao4 l0_0.length co4, .int .i64 a0_1, .slice Ao5 l0_2.length co5] 26 (0, 0)) (by (with_reducible repeat (first | refine blk_drewN ?_ _ | refine blk_drew ?_ | refine blk_alloc ?_ _)); exact BK193.out)) : gb194 ≠ gb193)); clear HO0_0; clear HO0_2; clear BK193; clear HK; clear HB; have HO0_0 := n0_; have HO0_2 := n1_; have BK193 := n2_; have HK := n3_; have HB := n4_; have BK194 := n5_; have GW194 := n6_; have GE194 := n7_; have NB193_194 := n8_; have NB194_193 := n9_; clear n0_ n1_ n2_ n3_ n4_ n5_ n6_ n7_ n8_ n9_; clear hb hbox hg)))
  (try simp only [Act.put, List.setIfInBounds_toArray, List.set_cons_zero, List.set_cons_succ])
  go_cut [29] (fun v29 wc => ∃ (kq : Nat) (x29_2 : Bool), v29 = .bool x29_2 ∧ Aside0 (larderlaw14_holds.j0 kq x29_2 l0_0 a0_1 l0_2 l1_0 a1_1 l1_2 = some (r1, r2, r3)) ∧ Aside0 (kq ≤ k) ∧ Aside0 (Kd.R k41 41 wc w0.heap.size (fun k_ => ((P0_0_ k_ ∨ P0_2_ k_) ∨ w.heap.size ≤ k_)) (.slice Ao4 l0_0.length co4) l0_0) ∧ Aside0 (Kd.R k47 47 wc w0.heap.size (fun k_ => ((P0_0_ k_ ∨ P0_2_ k_) ∨ w.heap.size ≤ k_)) (.slice Ao5 l0_2.length co5) l0_2) ∧ Aside0 (wc.heap[gb193]? = some (.cells #[(.slice Ao4 l0_0.length co4), .int .i64 a0_1, (.slice Ao5 l0_2.length co5)] 26 (0, 0))) ∧ Aside0 (wc.heap[gb194]? = some (.cells #[(.slice A1_0 l1_0.length c1_0), .int .i64 a1_1, (.slice A1_2 l1_2.length c1_2)] 26 (0, 0))) ∧ Aside0 (Kept w wc (fun k_ => P0_0_ k_ ∨ P0_2_ k_)) ∧ Aside0 (Below w0.heap.size w0 wc))
  case first =>
    have H := HC3.out
    clear HC3
    by_cases c8 : a0_1 = a1_1
    · rw [if_pos c8] at H
      have c8b0 : (a0_1 == a1_1) = true := beq_iff_eq.mpr c8
      have c8b1 : (a0_1 != a1_1) = false := bne_eq_false_iff_eq.mpr c8
      clear c8
      (first | rw [c8b0] | (simp only [i64_w, i32_w]; rw [c8b0]) | skip)
      by_cases c9 : (l0_0.length : Int) = (l1_0.length : Int)
      · rw [if_pos c9] at H
        have c9b0 : ((l0_0.length : Int) == (l1_0.length : Int)) = true := beq_iff_eq.mpr c9
        have c9b1 : ((l0_0.length : Int) != (l1_0.length : Int)) = false := bne_eq_false_iff_eq.mpr c9
        have c9b2 : (l0_0.length == l1_0.length) = true := by first | simpa using c9 | (simp at c9 ⊢; omega)
        clear c9
        have H' := Aside0.mk H
        clear H
        have hnb10 := NB193_194.out
        have hnc10 := NB194_193.out
        have hcz11_0 : w7.cell? ⟨gb193, 0, none⟩ = some (.slice Ao4 l0_0.length co4) := (blk_cell BK193.out 0).trans rfl
        have hcz11_1 : w7.cell? ⟨gb193, 1, none⟩ = some (.int .i64 a0_1) := (blk_cell BK193.out 1).trans rfl
        have hcz11_2 : w7.cell? ⟨gb193, 2, none⟩ = some (.slice Ao5 l0_2.length co5) := (blk_cell BK193.out 2).trans rfl
        have hfz11_0 := blk_frozen BK193.out 0
        have hfz11_1 := blk_frozen BK193.out 1
        have hfz11_2 := blk_frozen BK193.out 2
        have hcz12_0 : w7.cell? ⟨gb194, 0, none⟩ = some (.slice A1_0 l1_0.length c1_0) := (blk_cell BK194.out 0).trans rfl
        have hcz12_1 : w7.cell? ⟨gb194, 1, none⟩ = some (.int .i64 a1_1) := (blk_cell BK194.out 1).trans rfl
        have hcz12_2 : w7.cell? ⟨gb194, 2, none⟩ = some (.slice A1_2 l1_2.length c1_2) := (blk_cell BK194.out 2).trans rfl
        have hfz12_0 := blk_frozen BK194.out 0
        have hfz12_1 := blk_frozen BK194.out 1
        have hfz12_2 := blk_frozen BK194.out 2
        go_wp2
        repeat (go_quiet (fail); try go_wp2)
        go_meet
        case rel => exact ⟨_, (((l0_2.length : Int) != (l1_2.length : Int))), (by first | rfl | (simp; done) | (simp [*]; done)), H', ⟨by first | omega | exact Nat.le_refl _⟩, ⟨by (with_reducible repeat (first | apply Kd.R_alloc | apply Kd.R_drewN | apply Kd.R_drew)); exact HO0_0.out⟩, ⟨by (with_reducible repeat (first | apply Kd.R_alloc | apply Kd.R_drewN | apply Kd.R_drew)); exact HO0_2.out⟩, ⟨by (with_reducible repeat (first | refine blk_drewN ?_ _ | refine blk_drew ?_ | refine blk_alloc ?_ _)); exact BK193.out⟩, ⟨by (with_reducible repeat (first | refine blk_drewN ?_ _ | refine blk_drew ?_ | refine blk_alloc ?_ _)); exact BK194.out⟩, ⟨by repeat (first | (with_reducible first | exact HK.out | apply Kept.alloc | apply Kept.drewN | apply Kept.drew | refine Kept.setCell ?_ (.inr GW193.out) _ | refine Kept.setCell ?_ (.inr GW194.out) _) | exact HK.out)⟩, ⟨by repeat (first | (with_reducible first | exact HB.out | apply below_alloc | apply pw_below_drewN | apply below_drew1 | refine below_set ?_ GE193.out | refine below_set ?_ GE194.out) | exact HB.out)⟩⟩
      · rw [if_neg c9] at H
        have c9b0 : ((l0_0.length : Int) == (l1_0.length : Int)) = false := beq_eq_false_iff_ne.mpr c9
        have c9b1 : ((l0_0.length : Int) != (l1_0.length : Int)) = true := bne_iff_ne.mpr c9
        have c9b2 : (l0_0.length == l1_0.length) = false := by first | simpa using c9 | (simp at c9 ⊢; omega)
        have H' := Aside0.mk H
        clear H
        have hnb13 := NB193_194.out
        have hnc13 := NB194_193.out
        have hcz14_0 : w7.cell? ⟨gb193, 0, none⟩ = some (.slice Ao4 l0_0.length co4) := (blk_cell BK193.out 0).trans rfl
        have hcz14_1 : w7.cell? ⟨gb193, 1, none⟩ = some (.int .i64 a0_1) := (blk_cell BK193.out 1).trans rfl
        have hcz14_2 : w7.cell? ⟨gb193, 2, none⟩ = some (.slice Ao5 l0_2.length co5) := (blk_cell BK193.out 2).trans rfl
        have hfz14_0 := blk_frozen BK193.out 0
        have hfz14_1 := blk_frozen BK193.out 1
        have hfz14_2 := blk_frozen BK193.out 2
        have hcz15_0 : w7.cell? ⟨gb194, 0, none⟩ = some (.slice A1_0 l1_0.length c1_0) := (blk_cell BK194.out 0).trans rfl
        have hcz15_1 : w7.cell? ⟨gb194, 1, none⟩ = some (.int .i64 a1_1) := (blk_cell BK194.out 1).trans rfl
        have hcz15_2 : w7.cell? ⟨gb194, 2, none⟩ = some (.slice A1_2 l1_2.length c1_2) := (blk_cell BK194.out 2).trans rfl
        have hfz15_0 := blk_frozen BK194.out 0
        have hfz15_1 := blk_frozen BK194.out 1
        have hfz15_2 := blk_frozen BK194.out 2
        go_wp2
        repeat (go_quiet (fail); try go_wp2)
        go_meet
        case rel => exact ⟨_, (true), (by first | rfl | (simp; done) | (simp [*]; done)), H', ⟨by first | omega | exact Nat.le_refl _⟩, ⟨by (with_reducible repeat (first | apply Kd.R_alloc | apply Kd.R_drewN | apply Kd.R_drew)); exact HO0_0.out⟩, ⟨by (with_reducible repeat (first | apply Kd.R_alloc | apply Kd.R_drewN | apply Kd.R_drew)); exact HO0_2.out⟩, ⟨by (with_reducible repeat (first | refine blk_drewN ?_ _ | refine blk_drew ?_ | refine blk_alloc ?_ _)); exact BK193.out⟩, ⟨by (with_reducible repeat (first | refine blk_drewN ?_ _ | refine blk_drew ?_ | refine blk_alloc ?_ _)); exact BK194.out⟩, ⟨by repeat (first | (with_reducible first | exact HK.out | apply Kept.alloc | apply Kept.drewN | apply Kept.drew | refine Kept.setCell ?_ (.inr GW193.out) _ | refine Kept.setCell ?_ (.inr GW194.out) _) | exact HK.out)⟩, ⟨by repeat (first | (with_reducible first | exact HB.out | apply below_alloc | apply pw_below_drewN | apply below_drew1 | refine below_set ?_ GE193.out | refine below_set ?_ GE194.out) | exact HB.out)⟩⟩
    · rw [if_neg c8] at H
      have c8b0 : (a0_1 == a1_1) = false := beq_eq_false_iff_ne.mpr c8
      have c8b1 : (a0_1 != a1_1) = true := bne_iff_ne.mpr c8
      (first | rw [c8b0] | (simp only [i64_w, i32_w]; rw [c8b0]) | skip)
      have H' := Aside0.mk H
      clear H
      have hnb16 := NB193_194.out
      have hnc16 := NB194_193.out
      have hcz17_0 : w7.cell? ⟨gb193, 0, none⟩ = some (.slice Ao4 l0_0.length co4) := (blk_cell BK193.out 0).trans rfl
      have hcz17_1 : w7.cell? ⟨gb193, 1, none⟩ = some (.int .i64 a0_1) := (blk_cell BK193.out 1).trans rfl
      have hcz17_2 : w7.cell? ⟨gb193, 2, none⟩ = some (.slice Ao5 l0_2.length co5) := (blk_cell BK193.out 2).trans rfl
      have hfz17_0 := blk_frozen BK193.out 0
      have hfz17_1 := blk_frozen BK193.out 1
      have hfz17_2 := blk_frozen BK193.out 2
      have hcz18_0 : w7.cell? ⟨gb194, 0, none⟩ = some (.slice A1_0 l1_0.length c1_0) := (blk_cell BK194.out 0).trans rfl
      have hcz18_1 : w7.cell? ⟨gb194, 1, none⟩ = some (.int .i64 a1_1) := (blk_cell BK194.out 1).trans rfl
      have hcz18_2 : w7.cell? ⟨gb194, 2, none⟩ = some (.slice A1_2 l1_2.length c1_2) := (blk_cell BK194.out 2).trans rfl
      have hfz18_0 := blk_frozen BK194.out 0
      have hfz18_1 := blk_frozen BK194.out 1
      have hfz18_2 := blk_frozen BK194.out 2
      go_wp2
      repeat (go_quiet (fail); try go_wp2)
      go_meet
      case rel => exact ⟨_, (true), (by first | rfl | (simp; done) | (simp [*]; done)), H', ⟨by first | omega | exact Nat.le_refl _⟩, ⟨by (with_reducible repeat (first | apply Kd.R_alloc | apply Kd.R_drewN | apply Kd.R_drew)); exact HO0_0.out⟩, ⟨by (with_reducible repeat (first | apply Kd.R_alloc | apply Kd.R_drewN | apply Kd.R_drew)); exact HO0_2.out⟩, ⟨by (with_reducible repeat (first | refine blk_drewN ?_ _ | refine blk_drew ?_ | refine blk_alloc ?_ _)); exact BK193.out⟩, ⟨by (with_reducible repeat (first | refine blk_drewN ?_ _ | refine blk_drew ?_ | refine blk_alloc ?_ _)); exact BK194.out⟩, ⟨by repeat (first | (with_reducible first | exact HK.out | apply Kept.alloc | apply Kept.drewN | apply Kept.drew | refine Kept.setCell ?_ (.inr GW193.out) _ | refine Kept.setCell ?_ (.inr GW194.out) _) | exact HK.out)⟩, ⟨by repeat (first | (with_reducible first | exact HB.out | apply below_alloc | apply pw_below_drewN | apply below_drew1 | refine below_set ?_ GE193.out | refine below_set ?_ GE194.out) | exact HB.out)⟩⟩
  case rest =>
    clear HC3
    try clear c1
    try clear p2
    try clear c8
    try clear c8b0
    try clear c8b1
    try clear c9
    try clear c9b0
    try clear c9b1
    try clear c9b2
    try clear c10
    try clear c11
    try clear c13
    try clear c16
    try clear hcz11_0
    try clear hcz11_1
    try clear hcz11_2
    try clear hcz12_0
    try clear hcz12_1
    try clear hcz12_2
    try clear hcz14_0
    try clear hcz14_1
    try clear hcz14_2
    try clear hcz15_0
    try clear hcz15_1
    try clear hcz15_2
    try clear hcz17_0
    try clear hcz17_1
    try clear hcz17_2
    try clear hcz18_0
    try clear hcz18_1
    try clear hcz18_2
    try clear hfz11_0
    try clear hfz11_1
    try clear hfz11_2
    try clear hfz12_0
    try clear hfz12_1
    try clear hfz12_2
    try clear hfz14_0
    try clear hfz14_1
    try clear hfz14_2
    try clear hfz15_0
    try clear hfz15_1
    try clear hfz15_2
    try clear hfz17_0
    try clear hfz17_1
    try clear hfz17_2
    try clear hfz18_0
    try clear hfz18_1
    try clear hfz18_2
    obtain ⟨kq, x29_2, rfl, HA, HJ2, HO_194000, HO_194002, BK193, BK194, HK, HB⟩ := hcut
    cases kq with
    | zero => exact absurd HA.out (by simp [larderlaw14_holds.j0])
    | succ kj2 =>
      have H := HA.out
      clear HA
      simp only [larderlaw14_holds.j0] at H
      by_cases c19 : x29_2 = true
      · subst c19
        have H1 : (some (false, l0_0, l0_2)) = some (r1, r2, r3) := by rw [if_pos rfl] at H; exact H
        clear H
        have H := H1
        clear H1
        simp only [Option.some.injEq, Prod.mk.injEq] at H
        obtain ⟨rfl, rfl, rfl⟩ := H
        go_wp2
        repeat (go_quiet (fail); try go_wp2)
        go_ret
        exact ⟨by first | rfl | (simp [errW_none, errW_some] <;> rfl) | (simp [*, errW_none, errW_some] <;> rfl), by (with_reducible repeat (first | apply Kd.R_alloc | apply Kd.R_drewN | apply Kd.R_drew)); exact HO_194000.out, by (with_reducible repeat (first | apply Kd.R_alloc | apply Kd.R_drewN | apply Kd.R_drew)); exact HO_194002.out, by repeat (first | (with_reducible first | exact HB.out | apply below_alloc | apply pw_below_drewN | apply below_drew1 | refine below_set ?_ GE193.out | refine below_set ?_ GE194.out) | exact HB.out), by repeat (first | (with_reducible first | exact HK.out | apply Kept.alloc | apply Kept.drewN | apply Kept.drew | refine Kept.setCell ?_ (.inr GW193.out) _ | refine Kept.setCell ?_ (.inr GW194.out) _) | exact HK.out)⟩
      · replace c19 := Bool.eq_false_iff.mpr c19
        subst c19
        have H1 : (larderlaw14_holds.l0 kj2 (l0_0.length : Int) 0 l0_0 a0_1 l0_2 l1_0 a1_1 l1_2) = some (r1, r2, r3) := by rw [if_neg (show ¬ (false = true) by decide)] at H; exact H
        clear H
        have H := H1
        clear H1
        have H' := Aside0.mk H
        clear H
        have hnb20 := NB193_194.out
        have hnc20 := NB194_193.out
        have hcz21_0 : wc.cell? ⟨gb193, 0, none⟩ = some (.slice Ao4 l0_0.length co4) := (blk_cell BK193.out 0).trans rfl
        have hcz21_1 : wc.cell? ⟨gb193, 1, none⟩ = some (.int .i64 a0_1) := (blk_cell BK193.out 1).trans rfl
        have hcz21_2 : wc.cell? ⟨gb193, 2, none⟩ = some (.slice Ao5 l0_2.length co5) := (blk_cell BK193.out 2).trans rfl
        have hfz21_0 := blk_frozen BK193.out 0
        have hfz21_1 := blk_frozen BK193.out 1
        have hfz21_2 := blk_frozen BK193.out 2
        go_wp2
        repeat (go_quiet (fail); try go_wp2)
        go_loopg [33] kj2 (fun kq v33 w' => ∃ (x33_2 : Int) (x194000_2 : List (S41)), v33 = .int .i64 x33_2 ∧ Aside0 (larderlaw14_holds.l0 kq (l0_0.length : Int) x33_2 x194000_2 a0_1 l0_2 l1_0 a1_1 l1_2 = some (r1, r2, r3)) ∧ Aside0 (kq ≤ kj2) ∧ Aside0 (Kd.R k41 41 w' w0.heap.size (fun k_ => ((P0_0_ k_ ∨ P0_2_ k_) ∨ w.heap.size ≤ k_)) (.slice Ao4 l0_0.length co4) x194000_2) ∧ Aside0 (Kd.R k47 47 w' w0.heap.size (fun k_ => ((P0_0_ k_ ∨ P0_2_ k_) ∨ w.heap.size ≤ k_)) (.slice Ao5 l0_2.length co5) l0_2) ∧ Aside0 (w'.heap[gb193]? = some (.cells #[(.slice Ao4 l0_0.length co4), .int .i64 a0_1, (.slice Ao5 l0_2.length co5)] 26 (0, 0))) ∧ Aside0 (w'.heap[gb194]? = some (.cells #[(.slice A1_0 l1_0.length c1_0), .int .i64 a1_1, (.slice A1_2 l1_2.length c1_2)] 26 (0, 0))) ∧ Aside0 (Kept w w' (fun k_ => P0_0_ k_ ∨ P0_2_ k_)) ∧ Aside0 (Below w0.heap.size w0 w'))
        case atStart => exact ⟨(0), (l0_0), (by first | rfl | (simp; done) | (simp [*]; done)), H', ⟨Nat.le_refl _⟩, ⟨by (with_reducible repeat (first | apply Kd.R_alloc | apply Kd.R_drewN | apply Kd.R_drew)); exact HO_194000.out⟩, ⟨by (with_reducible repeat (first | apply Kd.R_alloc | apply Kd.R_drewN | apply Kd.R_drew)); exact HO_194002.out⟩, ⟨by (with_reducible repeat (first | refine blk_drewN ?_ _ | refine blk_drew ?_ | refine blk_alloc ?_ _)); exact BK193.out⟩, ⟨by (with_reducible repeat (first | refine blk_drewN ?_ _ | refine blk_drew ?_ | refine blk_alloc ?_ _)); exact BK194.out⟩, ⟨by repeat (first | (with_reducible first | exact HK.out | apply Kept.alloc | apply Kept.drewN | apply Kept.drew | refine Kept.setCell ?_ (.inr GW193.out) _ | refine Kept.setCell ?_ (.inr GW194.out) _) | exact HK.out)⟩, ⟨by repeat (first | (with_reducible first | exact HB.out | apply below_alloc | apply pw_below_drewN | apply below_drew1 | refine below_set ?_ GE193.out | refine below_set ?_ GE194.out) | exact HB.out)⟩⟩
        case round =>
          clear H'
          try clear c1
          try clear c2
          try clear p2
          try clear c8
          try clear c8b0
          try clear c8b1
          try clear c9
          try clear c9b0
          try clear c9b1
          try clear c9b2
          try clear c10
          try clear c11
          try clear c13
          try clear c16
          try clear c19
          try clear c20
          try clear hcz11_0
          try clear hcz11_1
          try clear hcz11_2
          try clear hcz12_0
          try clear hcz12_1
          try clear hcz12_2
          try clear hcz14_0
          try clear hcz14_1
          try clear hcz14_2
          try clear hcz15_0
          try clear hcz15_1
          try clear hcz15_2
          try clear hcz17_0
          try clear hcz17_1
          try clear hcz17_2
          try clear hcz18_0
          try clear hcz18_1
          try clear hcz18_2
          try clear hcz21_0
          try clear hcz21_1
          try clear hcz21_2
          try clear hfz11_0
          try clear hfz11_1
          try clear hfz11_2
          try clear hfz12_0
          try clear hfz12_1
          try clear hfz12_2
          try clear hfz14_0
          try clear hfz14_1
          try clear hfz14_2
          try clear hfz15_0
          try clear hfz15_1
          try clear hfz15_2
          try clear hfz17_0
          try clear hfz17_1
          try clear hfz17_2
          try clear hfz18_0
          try clear hfz18_1
          try clear hfz18_2
          try clear hfz21_0
          try clear hfz21_1
          try clear hfz21_2
          try clear p2
          obtain ⟨x33_2, x194000_2, rfl, HA, HK2, HO_194000, HO_194002, BK193, BK194, HK, HB⟩ := hrel
          have hl194000_2 := (Kd.R_reads' HO_194000.out).1
          rw [hl194000_2] at HO_194000
          (try simp only [hl194000_2])
          (try simp only [hl194000_2] at BK193)
          (try simp only [hl194000_2] at BK194)
          (try simp only [hl194000_2] at HO_194002)
          cases gk with
          | zero => exact absurd HA.out (by simp [larderlaw14_holds.l0])
          | succ k2 =>
            have H := HA.out
            clear HA
            simp only [larderlaw14_holds.l0] at H
            by_cases c22 : x33_2 < (l0_0.length : Int)
            · rw [if_pos c22] at H
              have c22b0 : decide (x33_2 < (l0_0.length : Int)) = true := decide_eq_true c22
              clear c22
              by_cases c23 : 0 ≤ x33_2
              · rw [if_pos c23] at H
                have c23b0 : decide (0 ≤ x33_2) = true := decide_eq_true c23
                clear c23
                by_cases c24 : x33_2 < (x194000_2.length : Int)
                · rw [if_pos c24] at H
                  have c24b0 : decide (x33_2 < (x194000_2.length : Int)) = true := decide_eq_true c24
                  clear c24
                  by_cases c25 : x33_2 < (l1_0.length : Int)
                  · rw [if_pos c25] at H
                    have c25b0 : decide (x33_2 < (l1_0.length : Int)) = true := decide_eq_true c25
                    clear c25
                    by_cases c26 : (!((((rd_T41 x194000_2 x33_2).f0).toList) == (((rd_T41 l1_0 x33_2).f0).toList)) || (!(((rd_T41 x194000_2 x33_2).f1) == ((rd_T41 l1_0 x33_2).f1)))) = true
                    · rw [if_pos c26] at H
                      have c26b0 : (!((((rd_T41 x194000_2 x33_2).f0).toList) == (((rd_T41 l1_0 x33_2).f0).toList)) || (!(((rd_T41 x194000_2 x33_2).f1) == ((rd_T41 l1_0 x33_2).f1)))) = true := c26
                      clear c26
                      simp only [Option.some.injEq, Prod.mk.injEq] at H
                      obtain ⟨rfl, rfl, rfl⟩ := H
                      have hnb27 := NB193_194.out
                      have hnc27 := NB194_193.out
                      have hcz28_0 : wr.cell? ⟨gb193, 0, none⟩ = some (.slice Ao4 x194000_2.length co4) := (blk_cell BK193.out 0).trans rfl
                      have hcz28_1 : wr.cell? ⟨gb193, 1, none⟩ = some (.int .i64 a0_1) := (blk_cell BK193.out 1).trans rfl
                      have hcz28_2 : wr.cell? ⟨gb193, 2, none⟩ = some (.slice Ao5 l0_2.length co5) := (blk_cell BK193.out 2).trans rfl
                      have hfz28_0 := blk_frozen BK193.out 0
                      have hfz28_1 := blk_frozen BK193.out 1
                      have hfz28_2 := blk_frozen BK193.out 2
                      have p195 : 0 ≤ (x33_2 : Int) := of_decide_eq_true (by first | (with_reducible assumption) | assumption)
                      have q195 : x33_2 < (x194000_2.length : Int) := of_decide_eq_true (by first | (with_reducible assumption) | assumption)
                      obtain ⟨ad195, e195, hx195_0, hx195_1⟩ := at_T41 (Kd.R_reads' HO_194000.out).2.2 x33_2 p195 q195
                      cases e195
                      replace p195 := eq_true p195
                      replace q195 := eq_true q195
                      have hcz29_0 : wr.cell? ⟨gb194, 0, none⟩ = some (.slice A1_0 l1_0.length c1_0) := (blk_cell BK194.out 0).trans rfl
                      have hcz29_1 : wr.cell? ⟨gb194, 1, none⟩ = some (.int .i64 a1_1) := (blk_cell BK194.out 1).trans rfl
                      have hcz29_2 : wr.cell? ⟨gb194, 2, none⟩ = some (.slice A1_2 l1_2.length c1_2) := (blk_cell BK194.out 2).trans rfl
                      have hfz29_0 := blk_frozen BK194.out 0
                      have hfz29_1 := blk_frozen BK194.out 1
                      have hfz29_2 := blk_frozen BK194.out 2
                      have p196 : 0 ≤ (x33_2 : Int) := of_decide_eq_true (by first | (with_reducible assumption) | assumption)
                      have q196 : x33_2 < (l1_0.length : Int) := of_decide_eq_true (by first | (with_reducible assumption) | assumption)
                      obtain ⟨ad196, e196, hx196_0, hx196_1⟩ := at_T41 (Kd.C_kept_now HR1_0.out HK.out) x33_2 p196 q196
                      cases e196
                      replace p196 := eq_true p196
                      replace q196 := eq_true q196
                      go_wp2
                      repeat (go_quiet (fail); try go_wp2)
                      go_ret
                      exact ⟨by first | rfl | (simp [errW_none, errW_some] <;> rfl) | (simp [*, errW_none, errW_some] <;> rfl), (by first | exact (by (with_reducible repeat (first | apply Kd.R_alloc | apply Kd.R_drewN | apply Kd.R_drew)); exact HO_194000.out) | (simp only [hl194000_2]; exact (by (with_reducible repeat (first | apply Kd.R_alloc | apply Kd.R_drewN | apply Kd.R_drew)); exact HO_194000.out))), (by first | exact (by (with_reducible repeat (first | apply Kd.R_alloc | apply Kd.R_drewN | apply Kd.R_drew)); exact HO_194002.out) | (simp only [hl194000_2]; exact (by (with_reducible repeat (first | apply Kd.R_alloc | apply Kd.R_drewN | apply Kd.R_drew)); exact HO_194002.out))), by repeat (first | (with_reducible first | exact HB.out | apply below_alloc | apply pw_below_drewN | apply below_drew1 | refine below_set ?_ GE193.out | refine below_set ?_ GE194.out) | exact HB.out), by repeat (first | (with_reducible first | exact HK.out | apply Kept.alloc | apply Kept.drewN | apply Kept.drew | refine Kept.setCell ?_ (.inr GW193.out) _ | refine Kept.setCell ?_ (.inr GW194.out) _) | exact HK.out)⟩
                    · rw [if_neg c26] at H
                      have c26b0 : (!((((rd_T41 x194000_2 x33_2).f0).toList) == (((rd_T41 l1_0 x33_2).f0).toList)) || (!(((rd_T41 x194000_2 x33_2).f1) == ((rd_T41 l1_0 x33_2).f1)))) = false := by simpa using c26
                      clear c26
                      obtain ⟨y197, hy197⟩ : ∃ y_ : List (S41), y_ = (x194000_2.set (x33_2 : Int).toNat (⟨(⟨#[119, 114, 105, 116, 116, 101, 110, 32, 111, 118, 101, 114]⟩ : ByteArray), 9⟩ : S41)) := ⟨_, rfl⟩
                      replace H : (larderlaw14_holds.l0 k2 (l0_0.length : Int) (wrap64 (x33_2 + 1)) y197 a0_1 l0_2 l1_0 a1_1 l1_2) = some (r1, r2, r3) := by first | (rw [hy197]; with_reducible exact H) | (have H2_ := (Option.bind_some _ _).symm.trans H; rw [hy197]; with_reducible exact H2_) | (have H2_ := (Option.bind_some _ _).symm.trans H; with_reducible exact H2_) | with_reducible exact H | (rw [hy197]; exact H) | exact H
                      have Ny197 := Aside0.mk hy197
                      clear hy197
                      have H' := Aside0.mk H
                      clear H
                      have hnb31 := NB193_194.out
                      have hnc31 := NB194_193.out
                      have hcz32_0 : wr.cell? ⟨gb193, 0, none⟩ = some (.slice Ao4 x194000_2.length co4) := (blk_cell BK193.out 0).trans rfl
                      have hcz32_1 : wr.cell? ⟨gb193, 1, none⟩ = some (.int .i64 a0_1) := (blk_cell BK193.out 1).trans rfl
                      have hcz32_2 : wr.cell? ⟨gb193, 2, none⟩ = some (.slice Ao5 l0_2.length co5) := (blk_cell BK193.out 2).trans rfl
                      have hfz32_0 := blk_frozen BK193.out 0
                      have hfz32_1 := blk_frozen BK193.out 1
                      have hfz32_2 := blk_frozen BK193.out 2
                      have p195 : 0 ≤ (x33_2 : Int) := of_decide_eq_true (by first | (with_reducible assumption) | assumption)
                      have q195 : x33_2 < (x194000_2.length : Int) := of_decide_eq_true (by first | (with_reducible assumption) | assumption)
                      obtain ⟨ad195, e195, hx195_0, hx195_1⟩ := at_T41 (Kd.R_reads' HO_194000.out).2.2 x33_2 p195 q195
                      cases e195
                      replace p195 := eq_true p195
                      replace q195 := eq_true q195
                      have hcz33_0 : wr.cell? ⟨gb194, 0, none⟩ = some (.slice A1_0 l1_0.length c1_0) := (blk_cell BK194.out 0).trans rfl
                      have hcz33_1 : wr.cell? ⟨gb194, 1, none⟩ = some (.int .i64 a1_1) := (blk_cell BK194.out 1).trans rfl
                      have hcz33_2 : wr.cell? ⟨gb194, 2, none⟩ = some (.slice A1_2 l1_2.length c1_2) := (blk_cell BK194.out 2).trans rfl
                      have hfz33_0 := blk_frozen BK194.out 0
                      have hfz33_1 := blk_frozen BK194.out 1
                      have hfz33_2 := blk_frozen BK194.out 2
                      have p196 : 0 ≤ (x33_2 : Int) := of_decide_eq_true (by first | (with_reducible assumption) | assumption)
                      have q196 : x33_2 < (l1_0.length : Int) := of_decide_eq_true (by first | (with_reducible assumption) | assumption)
                      obtain ⟨ad196, e196, hx196_0, hx196_1⟩ := at_T41 (Kd.C_kept_now HR1_0.out HK.out) x33_2 p196 q196
                      cases e196
                      replace p196 := eq_true p196
                      replace q196 := eq_true q196
                      have p30 : 0 ≤ (x33_2 : Int) := of_decide_eq_true (by first | (with_reducible assumption) | assumption)
                      have q30 : (x33_2 : Int) < ((x194000_2.length : Int) : Int) := of_decide_eq_true (by first | (with_reducible assumption) | assumption)
                      obtain ⟨go30, co30, eo30, gb30, gl30, cl30, HG30⟩ := Kd.R_form HO_194000.out (by omega)
                      (first | cases eo30 | (injection eo30 with ea_ en_ ec_; (first | subst ea_ | (injection ea_ with ea_; subst ea_)); subst ec_; clear en_))
                      have GB30 := Aside0.mk gb30
                      have GG30 := Aside0.mk HG30
                      clear gb30 gl30 HG30
                      have HMgo30 := Aside0.mk (show ((P0_0_ go30 ∨ P0_2_ go30) ∨ w.heap.size ≤ go30) from (HO_194000.out.1 _ rfl))
                      (first | simp only [add_plain] at hx195_0 | skip)
                      (first | simp only [add_plain] at hx195_1 | skip)
                      obtain ⟨ce30, hcl30, hM30, hcc30, hfr30⟩ := Kd.R_elem HO_194000.out z41 (x33_2 : Int) p30 q30
                      obtain rfl := k41_openM hM30
                      have hx30_0 : wr.cell? ⟨go30, (x33_2 : Int).toNat * 2, none⟩ = some (.string ((rd_T41 x194000_2 x33_2).f0)) := hcc30 0 _ rfl
                      have hx30_1 : wr.cell? ⟨go30, (x33_2 : Int).toNat * 2 + 1, none⟩ = some (.int .u64 ((rd_T41 x194000_2 x33_2).f1)) := hcc30 1 _ rfl
                      have hf30_0 : wr.frozen? ⟨go30, (x33_2 : Int).toNat * 2, none⟩ = false := hfr30 0
                      have hf30_1 : wr.frozen? ⟨go30, (x33_2 : Int).toNat * 2 + 1, none⟩ = false := hfr30 1
                      clear hcl30 hcc30 hfr30 hM30
                      replace p30 := eq_true p30
                      replace q30 := eq_true q30
                      have HX34 := Aside0.mk (show Kd.R k41 41 wr w0.heap.size (fun k_ => ((P0_0_ k_ ∨ P0_2_ k_) ∨ w.heap.size ≤ k_)) (.slice (some ⟨go30, 0, none⟩) x194000_2.length co4) x194000_2 from (by (with_reducible repeat (first | apply Kd.R_alloc | apply Kd.R_drewN | apply Kd.R_drew)); exact HO_194000.out))
                      obtain ⟨ce34, hcl34, hM34, hcc34, hfr34⟩ := Kd.R_elem HX34.out z41 (x33_2 : Int) (of_decide_eq_true (by first | (with_reducible assumption) | assumption)) (by have h_ : (x33_2 : Int) < ((x194000_2.length : Int) : Int) := of_decide_eq_true (by first | (with_reducible assumption) | assumption); first | exact h_ | (have e_ := (Kd.R_reads' HO_194000.out).1; omega) | simpa using h_)
                      obtain rfl := k41_openM hM34
                      have HP34 := Kd.R_seg HX34.out (x33_2 : Int) (of_decide_eq_true (by first | (with_reducible assumption) | assumption)) (by have h_ : (x33_2 : Int) < ((x194000_2.length : Int) : Int) := of_decide_eq_true (by first | (with_reducible assumption) | assumption); first | exact h_ | (have e_ := (Kd.R_reads' HO_194000.out).1; omega) | simpa using h_) (seg := [.string (⟨#[119, 114, 105, 116, 116, 101, 110, 32, 111, 118, 101, 114]⟩ : ByteArray), .int .u64 9]) (j := 0) hcl34 hcc34 (show 2 ≤ 2 from by decide) (x' := (⟨(⟨#[119, 114, 105, 116, 116, 101, 110, 32, 111, 118, 101, 114]⟩ : ByteArray), 9⟩ : S41)) (k41_mkM _ _ _ (⟨(⟨#[119, 114, 105, 116, 116, 101, 110, 32, 111, 118, 101, 114]⟩ : ByteArray), 9⟩ : S41) ) (fun _ hk => hk)
                      have hx34_0 := hcc34 0 _ rfl
                      (try simp only [show (k41).sz = 2 from rfl, Nat.mul_one, Nat.add_zero] at hx34_0)
                      have hf34_0 := hfr34 0
                      (try simp only [show (k41).sz = 2 from rfl, Nat.mul_one, Nat.add_zero] at hf34_0)
                      have hx34_1 := hcc34 1 _ rfl
                      (try simp only [show (k41).sz = 2 from rfl, Nat.mul_one, Nat.add_zero] at hx34_1)
                      have hf34_1 := hfr34 1
                      (try simp only [show (k41).sz = 2 from rfl, Nat.mul_one, Nat.add_zero] at hf34_1)
                      clear hcl34 hcc34 hfr34 hM34
                      go_wp2_with (first | ((with_reducible refine gate_store (t := 41) (p := 51) rfl ?_); (try (rw [drewN_self wr]; generalize hq_ : World.drewN wr _ = wr; have n0_ := Aside0.mk (Kd.R_at hq_ HO_194000.out); have n1_ := Aside0.mk (Kd.R_at hq_ HO_194002.out); have n2_ := Aside0.mk (blk_at hq_ BK193.out); have n3_ := Aside0.mk (blk_at hq_ BK194.out); have n4_ := Aside0.mk (kept_at hq_ HK.out); have n5_ := Aside0.mk (below_at hq_ HB.out); clear hq_ HO_194000 HO_194002 BK193 BK194 HK HB; have HO_194000 := n0_; have HO_194002 := n1_; have BK193 := n2_; have BK194 := n3_; have HK := n4_; have HB := n5_; clear n0_ n1_ n2_ n3_ n4_ n5_; (try (have HX34 := Aside0.mk (show Kd.R k41 41 wr w0.heap.size (fun k_ => ((P0_0_ k_ ∨ P0_2_ k_) ∨ w.heap.size ≤ k_)) (.slice (some ⟨go30, 0, none⟩) x194000_2.length co4) x194000_2 from (by (with_reducible repeat (first | apply Kd.R_alloc | apply Kd.R_drewN | apply Kd.R_drew)); exact HO_194000.out)))); (try (obtain ⟨ce34, hcl34, hM34, hcc34, hfr34⟩ := Kd.R_elem HX34.out z41 (x33_2 : Int) (of_decide_eq_true (by first | (with_reducible assumption) | assumption)) (by have h_ : (x33_2 : Int) < ((x194000_2.length : Int) : Int) := of_decide_eq_true (by first | (with_reducible assumption) | assumption); first | exact h_ | (have e_ := (Kd.R_reads' HO_194000.out).1; omega) | simpa using h_))); (try (obtain rfl := k41_openM hM34)); (try (have HP34 := Kd.R_seg HX34.out (x33_2 : Int) (of_decide_eq_true (by first | (with_reducible assumption) | assumption)) (by have h_ : (x33_2 : Int) < ((x194000_2.length : Int) : Int) := of_decide_eq_true (by first | (with_reducible assumption) | assumption); first | exact h_ | (have e_ := (Kd.R_reads' HO_194000.out).1; omega) | simpa using h_) (seg := [.string (⟨#[119, 114, 105, 116, 116, 101, 110, 32, 111, 118, 101, 114]⟩ : ByteArray), .int .u64 9]) (j := 0) hcl34 hcc34 (show 2 ≤ 2 from by decide) (x' := (⟨(⟨#[119, 114, 105, 116, 116, 101, 110, 32, 111, 118, 101, 114]⟩ : ByteArray), 9⟩ : S41)) (k41_mkM _ _ _ (⟨(⟨#[119, 114, 105, 116, 116, 101, 110, 32, 111, 118, 101, 114]⟩ : ByteArray), 9⟩ : S41) ) (fun _ hk => hk))); (try (have hx34_0 := hcc34 0 _ rfl)); (try (try simp only [show (k41).sz = 2 from rfl, Nat.mul_one, Nat.add_zero] at hx34_0)); (try (have hf34_0 := hfr34 0)); (try (try simp only [show (k41).sz = 2 from rfl, Nat.mul_one, Nat.add_zero] at hf34_0)); (try (have hx34_1 := hcc34 1 _ rfl)); (try (try simp only [show (k41).sz = 2 from rfl, Nat.mul_one, Nat.add_zero] at hx34_1)); (try (have hf34_1 := hfr34 1)); (try (try simp only [show (k41).sz = 2 from rfl, Nat.mul_one, Nat.add_zero] at hf34_1)); (try (clear hcl34 hcc34 hfr34 hM34)))); refine store_event (t := 41) (p := 51) (v := ?vo_w35) (w1 := ((wr.setCell ⟨go30, (x33_2 : Int).toNat * 2, none⟩ (.string (⟨#[119, 114, 105, 116, 116, 101, 110, 32, 111, 118, 101, 114]⟩ : ByteArray))).setCell ⟨go30, (x33_2 : Int).toNat * 2 + 1, none⟩ (.int .u64 9))) ?hg ?ho ?hn ?hr ?_; (case ho => rfl); (case hg => rfl); (case hn => rfl); (case hr => first | (go_simp; done) | (go_simp; rfl)); intro w35 hw; have hg : wr.grownBy w35 (some go30) := (by rw [hw]; exact HP34.2); have hp_ : Kd.R k41 41 w35 w0.heap.size (fun k_ => ((P0_0_ k_ ∨ P0_2_ k_) ∨ w.heap.size ≤ k_)) (.slice (some ⟨go30, 0, none⟩) x194000_2.length co4) y197 := (by rw [hw, Ny197.out]; exact HP34.1); clear HP34; have n0_ := Aside0.mk (hp_); have n1_ := Aside0.mk (Kd.R_over' (v := (.slice (some ⟨go30, 0, none⟩) x194000_2.length co4)) (by (with_reducible repeat (first | apply Kd.R_alloc | apply Kd.R_drewN | apply Kd.R_drew)); exact HO_194002.out) (Kd.R_typed HO_194000.out) (by decide) hg); have n2_ := Aside0.mk (blk_grown (g := gb193) (o := .cells #[.slice (some ⟨go30, 0, none⟩) x194000_2.length co4, .int .i64 a0_1, .slice Ao5 l0_2.length co5] 26 (0, 0)) (by (with_reducible repeat (first | refine blk_drewN ?_ _ | refine blk_drew ?_ | refine blk_alloc ?_ _)); exact BK193.out) hg (Kd.R_ne HO_194000.out BK193.out (by decide))); have n3_ := Aside0.mk (blk_grown (g := gb194) (o := .cells #[.slice (some ad196) l1_0.length c1_0, .int .i64 a1_1, .slice A1_2 l1_2.length c1_2] 26 (0, 0)) (by (with_reducible repeat (first | refine blk_drewN ?_ _ | refine blk_drew ?_ | refine blk_alloc ?_ _)); exact BK194.out) hg (Kd.R_ne HO_194000.out BK194.out (by decide))); have n4_ := Aside0.mk ((by rw [hw]; exact below_set (below_set (HB.out) GB30.out) GB30.out : Below w0.heap.size w0 w35)); have n5_ := Aside0.mk (Kept.of_grown (S := (fun k_ => P0_0_ k_ ∨ P0_2_ k_)) hg (by repeat (first | (with_reducible first | exact HK.out | apply Kept.alloc | apply Kept.drewN | apply Kept.drew | refine Kept.setCell ?_ (.inr GW193.out) _ | refine Kept.setCell ?_ (.inr GW194.out) _) | exact HK.out)) (fun k_ e_ => (HO_194000.out.1 k_ e_))); clear HO_194000; clear HO_194002; clear BK193; clear BK194; clear HB; clear HK; have HO_194000 := n0_; have HO_194002 := n1_; have BK193 := n2_; have BK194 := n3_; have HB := n4_; have HK := n5_; clear n0_ n1_ n2_ n3_ n4_ n5_; clear hg hw hp_))
                      repeat (go_quiet (first | ((with_reducible refine gate_store (t := 41) (p := 51) rfl ?_); (try (rw [drewN_self wr]; generalize hq_ : World.drewN wr _ = wr; have n0_ := Aside0.mk (Kd.R_at hq_ HO_194000.out); have n1_ := Aside0.mk (Kd.R_at hq_ HO_194002.out); have n2_ := Aside0.mk (blk_at hq_ BK193.out); have n3_ := Aside0.mk (blk_at hq_ BK194.out); have n4_ := Aside0.mk (kept_at hq_ HK.out); have n5_ := Aside0.mk (below_at hq_ HB.out); clear hq_ HO_194000 HO_194002 BK193 BK194 HK HB; have HO_194000 := n0_; have HO_194002 := n1_; have BK193 := n2_; have BK194 := n3_; have HK := n4_; have HB := n5_; clear n0_ n1_ n2_ n3_ n4_ n5_; (try (have HX34 := Aside0.mk (show Kd.R k41 41 wr w0.heap.size (fun k_ => ((P0_0_ k_ ∨ P0_2_ k_) ∨ w.heap.size ≤ k_)) (.slice (some ⟨go30, 0, none⟩) x194000_2.length co4) x194000_2 from (by (with_reducible repeat (first | apply Kd.R_alloc | apply Kd.R_drewN | apply Kd.R_drew)); exact HO_194000.out)))); (try (obtain ⟨ce34, hcl34, hM34, hcc34, hfr34⟩ := Kd.R_elem HX34.out z41 (x33_2 : Int) (of_decide_eq_true (by first | (with_reducible assumption) | assumption)) (by have h_ : (x33_2 : Int) < ((x194000_2.length : Int) : Int) := of_decide_eq_true (by first | (with_reducible assumption) | assumption); first | exact h_ | (have e_ := (Kd.R_reads' HO_194000.out).1; omega) | simpa using h_))); (try (obtain rfl := k41_openM hM34)); (try (have HP34 := Kd.R_seg HX34.out (x33_2 : Int) (of_decide_eq_true (by first | (with_reducible assumption) | assumption)) (by have h_ : (x33_2 : Int) < ((x194000_2.length : Int) : Int) := of_decide_eq_true (by first | (with_reducible assumption) | assumption); first | exact h_ | (have e_ := (Kd.R_reads' HO_194000.out).1; omega) | simpa using h_) (seg := [.string (⟨#[119, 114, 105, 116, 116, 101, 110, 32, 111, 118, 101, 114]⟩ : ByteArray), .int .u64 9]) (j := 0) hcl34 hcc34 (show 2 ≤ 2 from by decide) (x' := (⟨(⟨#[119, 114, 105, 116, 116, 101, 110, 32, 111, 118, 101, 114]⟩ : ByteArray), 9⟩ : S41)) (k41_mkM _ _ _ (⟨(⟨#[119, 114, 105, 116, 116, 101, 110, 32, 111, 118, 101, 114]⟩ : ByteArray), 9⟩ : S41) ) (fun _ hk => hk))); (try (have hx34_0 := hcc34 0 _ rfl)); (try (try simp only [show (k41).sz = 2 from rfl, Nat.mul_one, Nat.add_zero] at hx34_0)); (try (have hf34_0 := hfr34 0)); (try (try simp only [show (k41).sz = 2 from rfl, Nat.mul_one, Nat.add_zero] at hf34_0)); (try (have hx34_1 := hcc34 1 _ rfl)); (try (try simp only [show (k41).sz = 2 from rfl, Nat.mul_one, Nat.add_zero] at hx34_1)); (try (have hf34_1 := hfr34 1)); (try (try simp only [show (k41).sz = 2 from rfl, Nat.mul_one, Nat.add_zero] at hf34_1)); (try (clear hcl34 hcc34 hfr34 hM34)))); refine store_event (t := 41) (p := 51) (v := ?vo_w35) (w1 := ((wr.setCell ⟨go30, (x33_2 : Int).toNat * 2, none⟩ (.string (⟨#[119, 114, 105, 116, 116, 101, 110, 32, 111, 118, 101, 114]⟩ : ByteArray))).setCell ⟨go30, (x33_2 : Int).toNat * 2 + 1, none⟩ (.int .u64 9))) ?hg ?ho ?hn ?hr ?_; (case ho => rfl); (case hg => rfl); (case hn => rfl); (case hr => first | (go_simp; done) | (go_simp; rfl)); intro w35 hw; have hg : wr.grownBy w35 (some go30) := (by rw [hw]; exact HP34.2); have hp_ : Kd.R k41 41 w35 w0.heap.size (fun k_ => ((P0_0_ k_ ∨ P0_2_ k_) ∨ w.heap.size ≤ k_)) (.slice (some ⟨go30, 0, none⟩) x194000_2.length co4) y197 := (by rw [hw, Ny197.out]; exact HP34.1); clear HP34; have n0_ := Aside0.mk (hp_); have n1_ := Aside0.mk (Kd.R_over' (v := (.slice (some ⟨go30, 0, none⟩) x194000_2.length co4)) (by (with_reducible repeat (first | apply Kd.R_alloc | apply Kd.R_drewN | apply Kd.R_drew)); exact HO_194002.out) (Kd.R_typed HO_194000.out) (by decide) hg); have n2_ := Aside0.mk (blk_grown (g := gb193) (o := .cells #[.slice (some ⟨go30, 0, none⟩) x194000_2.length co4, .int .i64 a0_1, .slice Ao5 l0_2.length co5] 26 (0, 0)) (by (with_reducible repeat (first | refine blk_drewN ?_ _ | refine blk_drew ?_ | refine blk_alloc ?_ _)); exact BK193.out) hg (Kd.R_ne HO_194000.out BK193.out (by decide))); have n3_ := Aside0.mk (blk_grown (g := gb194) (o := .cells #[.slice (some ad196) l1_0.length c1_0, .int .i64 a1_1, .slice A1_2 l1_2.length c1_2] 26 (0, 0)) (by (with_reducible repeat (first | refine blk_drewN ?_ _ | refine blk_drew ?_ | refine blk_alloc ?_ _)); exact BK194.out) hg (Kd.R_ne HO_194000.out BK194.out (by decide))); have n4_ := Aside0.mk ((by rw [hw]; exact below_set (below_set (HB.out) GB30.out) GB30.out : Below w0.heap.size w0 w35)); have n5_ := Aside0.mk (Kept.of_grown (S := (fun k_ => P0_0_ k_ ∨ P0_2_ k_)) hg (by repeat (first | (with_reducible first | exact HK.out | apply Kept.alloc | apply Kept.drewN | apply Kept.drew | refine Kept.setCell ?_ (.inr GW193.out) _ | refine Kept.setCell ?_ (.inr GW194.out) _) | exact HK.out)) (fun k_ e_ => (HO_194000.out.1 k_ e_))); clear HO_194000; clear HO_194002; clear BK193; clear BK194; clear HB; clear HK; have HO_194000 := n0_; have HO_194002 := n1_; have BK193 := n2_; have BK194 := n3_; have HB := n4_; have HK := n5_; clear n0_ n1_ n2_ n3_ n4_ n5_; clear hg hw hp_)); try go_wp2_with (first | ((with_reducible refine gate_store (t := 41) (p := 51) rfl ?_); (try (rw [drewN_self wr]; generalize hq_ : World.drewN wr _ = wr; have n0_ := Aside0.mk (Kd.R_at hq_ HO_194000.out); have n1_ := Aside0.mk (Kd.R_at hq_ HO_194002.out); have n2_ := Aside0.mk (blk_at hq_ BK193.out); have n3_ := Aside0.mk (blk_at hq_ BK194.out); have n4_ := Aside0.mk (kept_at hq_ HK.out); have n5_ := Aside0.mk (below_at hq_ HB.out); clear hq_ HO_194000 HO_194002 BK193 BK194 HK HB; have HO_194000 := n0_; have HO_194002 := n1_; have BK193 := n2_; have BK194 := n3_; have HK := n4_; have HB := n5_; clear n0_ n1_ n2_ n3_ n4_ n5_; (try (have HX34 := Aside0.mk (show Kd.R k41 41 wr w0.heap.size (fun k_ => ((P0_0_ k_ ∨ P0_2_ k_) ∨ w.heap.size ≤ k_)) (.slice (some ⟨go30, 0, none⟩) x194000_2.length co4) x194000_2 from (by (with_reducible repeat (first | apply Kd.R_alloc | apply Kd.R_drewN | apply Kd.R_drew)); exact HO_194000.out)))); (try (obtain ⟨ce34, hcl34, hM34, hcc34, hfr34⟩ := Kd.R_elem HX34.out z41 (x33_2 : Int) (of_decide_eq_true (by first | (with_reducible assumption) | assumption)) (by have h_ : (x33_2 : Int) < ((x194000_2.length : Int) : Int) := of_decide_eq_true (by first | (with_reducible assumption) | assumption); first | exact h_ | (have e_ := (Kd.R_reads' HO_194000.out).1; omega) | simpa using h_))); (try (obtain rfl := k41_openM hM34)); (try (have HP34 := Kd.R_seg HX34.out (x33_2 : Int) (of_decide_eq_true (by first | (with_reducible assumption) | assumption)) (by have h_ : (x33_2 : Int) < ((x194000_2.length : Int) : Int) := of_decide_eq_true (by first | (with_reducible assumption) | assumption); first | exact h_ | (have e_ := (Kd.R_reads' HO_194000.out).1; omega) | simpa using h_) (seg := [.string (⟨#[119, 114, 105, 116, 116, 101, 110, 32, 111, 118, 101, 114]⟩ : ByteArray), .int .u64 9]) (j := 0) hcl34 hcc34 (show 2 ≤ 2 from by decide) (x' := (⟨(⟨#[119, 114, 105, 116, 116, 101, 110, 32, 111, 118, 101, 114]⟩ : ByteArray), 9⟩ : S41)) (k41_mkM _ _ _ (⟨(⟨#[119, 114, 105, 116, 116, 101, 110, 32, 111, 118, 101, 114]⟩ : ByteArray), 9⟩ : S41) ) (fun _ hk => hk))); (try (have hx34_0 := hcc34 0 _ rfl)); (try (try simp only [show (k41).sz = 2 from rfl, Nat.mul_one, Nat.add_zero] at hx34_0)); (try (have hf34_0 := hfr34 0)); (try (try simp only [show (k41).sz = 2 from rfl, Nat.mul_one, Nat.add_zero] at hf34_0)); (try (have hx34_1 := hcc34 1 _ rfl)); (try (try simp only [show (k41).sz = 2 from rfl, Nat.mul_one, Nat.add_zero] at hx34_1)); (try (have hf34_1 := hfr34 1)); (try (try simp only [show (k41).sz = 2 from rfl, Nat.mul_one, Nat.add_zero] at hf34_1)); (try (clear hcl34 hcc34 hfr34 hM34)))); refine store_event (t := 41) (p := 51) (v := ?vo_w35) (w1 := ((wr.setCell ⟨go30, (x33_2 : Int).toNat * 2, none⟩ (.string (⟨#[119, 114, 105, 116, 116, 101, 110, 32, 111, 118, 101, 114]⟩ : ByteArray))).setCell ⟨go30, (x33_2 : Int).toNat * 2 + 1, none⟩ (.int .u64 9))) ?hg ?ho ?hn ?hr ?_; (case ho => rfl); (case hg => rfl); (case hn => rfl); (case hr => first | (go_simp; done) | (go_simp; rfl)); intro w35 hw; have hg : wr.grownBy w35 (some go30) := (by rw [hw]; exact HP34.2); have hp_ : Kd.R k41 41 w35 w0.heap.size (fun k_ => ((P0_0_ k_ ∨ P0_2_ k_) ∨ w.heap.size ≤ k_)) (.slice (some ⟨go30, 0, none⟩) x194000_2.length co4) y197 := (by rw [hw, Ny197.out]; exact HP34.1); clear HP34; have n0_ := Aside0.mk (hp_); have n1_ := Aside0.mk (Kd.R_over' (v := (.slice (some ⟨go30, 0, none⟩) x194000_2.length co4)) (by (with_reducible repeat (first | apply Kd.R_alloc | apply Kd.R_drewN | apply Kd.R_drew)); exact HO_194002.out) (Kd.R_typed HO_194000.out) (by decide) hg); have n2_ := Aside0.mk (blk_grown (g := gb193) (o := .cells #[.slice (some ⟨go30, 0, none⟩) x194000_2.length co4, .int .i64 a0_1, .slice Ao5 l0_2.length co5] 26 (0, 0)) (by (with_reducible repeat (first | refine blk_drewN ?_ _ | refine blk_drew ?_ | refine blk_alloc ?_ _)); exact BK193.out) hg (Kd.R_ne HO_194000.out BK193.out (by decide))); have n3_ := Aside0.mk (blk_grown (g := gb194) (o := .cells #[.slice (some ad196) l1_0.length c1_0, .int .i64 a1_1, .slice A1_2 l1_2.length c1_2] 26 (0, 0)) (by (with_reducible repeat (first | refine blk_drewN ?_ _ | refine blk_drew ?_ | refine blk_alloc ?_ _)); exact BK194.out) hg (Kd.R_ne HO_194000.out BK194.out (by decide))); have n4_ := Aside0.mk ((by rw [hw]; exact below_set (below_set (HB.out) GB30.out) GB30.out : Below w0.heap.size w0 w35)); have n5_ := Aside0.mk (Kept.of_grown (S := (fun k_ => P0_0_ k_ ∨ P0_2_ k_)) hg (by repeat (first | (with_reducible first | exact HK.out | apply Kept.alloc | apply Kept.drewN | apply Kept.drew | refine Kept.setCell ?_ (.inr GW193.out) _ | refine Kept.setCell ?_ (.inr GW194.out) _) | exact HK.out)) (fun k_ e_ => (HO_194000.out.1 k_ e_))); clear HO_194000; clear HO_194002; clear BK193; clear BK194; clear HB; clear HK; have HO_194000 := n0_; have HO_194002 := n1_; have BK193 := n2_; have BK194 := n3_; have HB := n4_; have HK := n5_; clear n0_ n1_ n2_ n3_ n4_ n5_; clear hg hw hp_)))
                      (try simp only [← hl194000_2])
                      go_roundg k2
                      case measure => have := HJ2.out; have := HK2.out; omega
                      case rel => exact ⟨(wrap64 (x33_2 + 1)), (y197), (by first | rfl | (simp; done) | (simp [*]; done)), H', ⟨by have := HJ2.out; have := HK2.out; omega⟩, ⟨by (try simp only [hl194000_2]); (with_reducible repeat (first | apply Kd.R_alloc | apply Kd.R_drewN | apply Kd.R_drew)); exact HO_194000.out⟩, ⟨by (try simp only [hl194000_2]); (with_reducible repeat (first | apply Kd.R_alloc | apply Kd.R_drewN | apply Kd.R_drew)); exact HO_194002.out⟩, ⟨by (try simp only [hl194000_2]); (with_reducible repeat (first | refine blk_drewN ?_ _ | refine blk_drew ?_ | refine blk_alloc ?_ _)); exact BK193.out⟩, ⟨by (try simp only [hl194000_2]); (with_reducible repeat (first | refine blk_drewN ?_ _ | refine blk_drew ?_ | refine blk_alloc ?_ _)); exact BK194.out⟩, ⟨by repeat (first | (with_reducible first | exact HK.out | apply Kept.alloc | apply Kept.drewN | apply Kept.drew | refine Kept.setCell ?_ (.inr GW193.out) _ | refine Kept.setCell ?_ (.inr GW194.out) _) | exact HK.out)⟩, ⟨by repeat (first | (with_reducible first | exact HB.out | apply below_alloc | apply pw_below_drewN | apply below_drew1 | refine below_set ?_ GE193.out | refine below_set ?_ GE194.out) | exact HB.out)⟩⟩
                  · rw [if_neg c25] at H
                    exact absurd H (by simp)
                · rw [if_neg c24] at H
                  exact absurd H (by simp)
              · rw [if_neg c23] at H
                exact absurd H (by simp)
            · rw [if_neg c22] at H
              have c22b0 : decide (x33_2 < (l0_0.length : Int)) = false := decide_eq_false c22
              clear c22
              have c22b1 : decide (x33_2 < (x194000_2.length : Int)) = false := by rw [← hl194000_2]; exact c22b0
              have H' := Aside0.mk H
              clear H
              have hnb36 := NB193_194.out
              have hnc36 := NB194_193.out
              have hcz37_0 : wr.cell? ⟨gb193, 0, none⟩ = some (.slice Ao4 x194000_2.length co4) := (blk_cell BK193.out 0).trans rfl
              have hcz37_1 : wr.cell? ⟨gb193, 1, none⟩ = some (.int .i64 a0_1) := (blk_cell BK193.out 1).trans rfl
              have hcz37_2 : wr.cell? ⟨gb193, 2, none⟩ = some (.slice Ao5 l0_2.length co5) := (blk_cell BK193.out 2).trans rfl
              have hfz37_0 := blk_frozen BK193.out 0
              have hfz37_1 := blk_frozen BK193.out 1
              have hfz37_2 := blk_frozen BK193.out 2
              go_wp2
              repeat (go_quiet (fail); try go_wp2)
              go_loopg [56] k2 (fun kq v56 w' => ∃ (x56_3 : Int) (x194002_3 : List (S47)), v56 = .int .i64 x56_3 ∧ Aside0 (larderlaw14_holds.l1 kq (l0_2.length : Int) x56_3 x194000_2 a0_1 x194002_3 l1_0 a1_1 l1_2 = some (r1, r2, r3)) ∧ Aside0 (kq ≤ k2) ∧ Aside0 (Kd.R k41 41 w' w0.heap.size (fun k_ => ((P0_0_ k_ ∨ P0_2_ k_) ∨ w.heap.size ≤ k_)) (.slice Ao4 x194000_2.length co4) x194000_2) ∧ Aside0 (Kd.R k47 47 w' w0.heap.size (fun k_ => ((P0_0_ k_ ∨ P0_2_ k_) ∨ w.heap.size ≤ k_)) (.slice Ao5 l0_2.length co5) x194002_3) ∧ Aside0 (w'.heap[gb193]? = some (.cells #[(.slice Ao4 x194000_2.length co4), .int .i64 a0_1, (.slice Ao5 l0_2.length co5)] 26 (0, 0))) ∧ Aside0 (w'.heap[gb194]? = some (.cells #[(.slice A1_0 l1_0.length c1_0), .int .i64 a1_1, (.slice A1_2 l1_2.length c1_2)] 26 (0, 0))) ∧ Aside0 (Kept w w' (fun k_ => P0_0_ k_ ∨ P0_2_ k_)) ∧ Aside0 (Below w0.heap.size w0 w'))
              case atStart => exact ⟨(0), (l0_2), (by first | rfl | (simp; done) | (simp [*]; done)), H', ⟨Nat.le_refl _⟩, ⟨by (try simp only [hl194000_2]); (with_reducible repeat (first | apply Kd.R_alloc | apply Kd.R_drewN | apply Kd.R_drew)); exact HO_194000.out⟩, ⟨by (try simp only [hl194000_2]); (with_reducible repeat (first | apply Kd.R_alloc | apply Kd.R_drewN | apply Kd.R_drew)); exact HO_194002.out⟩, ⟨by (try simp only [hl194000_2]); (with_reducible repeat (first | refine blk_drewN ?_ _ | refine blk_drew ?_ | refine blk_alloc ?_ _)); exact BK193.out⟩, ⟨by (try simp only [hl194000_2]); (with_reducible repeat (first | refine blk_drewN ?_ _ | refine blk_drew ?_ | refine blk_alloc ?_ _)); exact BK194.out⟩, ⟨by repeat (first | (with_reducible first | exact HK.out | apply Kept.alloc | apply Kept.drewN | apply Kept.drew | refine Kept.setCell ?_ (.inr GW193.out) _ | refine Kept.setCell ?_ (.inr GW194.out) _) | exact HK.out)⟩, ⟨by repeat (first | (with_reducible first | exact HB.out | apply below_alloc | apply pw_below_drewN | apply below_drew1 | refine below_set ?_ GE193.out | refine below_set ?_ GE194.out) | exact HB.out)⟩⟩
              case round =>
                clear H'
                try clear c1
                try clear p1
                try clear q1
                try clear hx1
                try clear c2
                try clear p2
                try clear c3
                try clear p3
                try clear q3
                try clear hx3
                try clear hf3
                try clear p6
                try clear c8
                try clear c8b0
                try clear c8b1
                try clear c9
                try clear c9b0
                try clear c9b1
                try clear c9b2
                try clear c10
                try clear c11
                try clear c13
                try clear c16
                try clear c19
                try clear p19
                try clear q19
                try clear hx19
                try clear c20
                try clear c22
                try clear c22b0
                try clear c23
                try clear c23b0
                try clear c24
                try clear c24b0
                try clear c25
                try clear c25b0
                try clear c26
                try clear c26b0
                try clear c27
                try clear c30
                try clear p30
                try clear q30
                try clear hx30
                try clear hf30
                try clear c31
                try clear c34
                try clear hx34
                try clear hf34
                try clear c36
                try clear hcz11_0
                try clear hcz11_1
                try clear hcz11_2
                try clear hcz12_0
                try clear hcz12_1
                try clear hcz12_2
                try clear hcz14_0
                try clear hcz14_1
                try clear hcz14_2
                try clear hcz15_0
                try clear hcz15_1
                try clear hcz15_2
                try clear hcz17_0
                try clear hcz17_1
                try clear hcz17_2
                try clear hcz18_0
                try clear hcz18_1
                try clear hcz18_2
                try clear hcz21_0
                try clear hcz21_1
                try clear hcz21_2
                try clear hcz28_0
                try clear hcz28_1
                try clear hcz28_2
                try clear hcz29_0
                try clear hcz29_1
                try clear hcz29_2
                try clear hcz32_0
                try clear hcz32_1
                try clear hcz32_2
                try clear hcz33_0
                try clear hcz33_1
                try clear hcz33_2
                try clear hcz37_0
                try clear hcz37_1
                try clear hcz37_2
                try clear hfz11_0
                try clear hfz11_1
                try clear hfz11_2
                try clear hfz12_0
                try clear hfz12_1
                try clear hfz12_2
                try clear hfz14_0
                try clear hfz14_1
                try clear hfz14_2
                try clear hfz15_0
                try clear hfz15_1
                try clear hfz15_2
                try clear hfz17_0
                try clear hfz17_1
                try clear hfz17_2
                try clear hfz18_0
                try clear hfz18_1
                try clear hfz18_2
                try clear hfz21_0
                try clear hfz21_1
                try clear hfz21_2
                try clear hfz28_0
                try clear hfz28_1
                try clear hfz28_2
                try clear hfz29_0
                try clear hfz29_1
                try clear hfz29_2
                try clear hfz32_0
                try clear hfz32_1
                try clear hfz32_2
                try clear hfz33_0
                try clear hfz33_1
                try clear hfz33_2
                try clear hfz37_0
                try clear hfz37_1
                try clear hfz37_2
                try clear hx195_0
                try clear hx195_1
                try clear hx196_0
                try clear hx196_1
                try clear hx30_0
                try clear hx30_1
                try clear hx34_0
                try clear hx34_1
                try clear p195
                try clear p196
                try clear p2
                try clear p30
                try clear q195
                try clear q196
                try clear q30
                obtain ⟨x56_3, x194002_3, rfl, HA, HK3, HO_194000, HO_194002, BK193, BK194, HK, HB⟩ := hrel
                have hl194002_3 := (Kd.R_reads' HO_194002.out).1
                rw [hl194002_3] at HO_194002
                (try simp only [hl194002_3])
                (try simp only [hl194002_3] at BK193)
                (try simp only [hl194002_3] at BK194)
                (try simp only [hl194002_3] at HO_194000)
                cases gk with
                | zero => exact absurd HA.out (by simp [larderlaw14_holds.l1])
                | succ k3 =>
                  have H := HA.out
                  clear HA
                  simp only [larderlaw14_holds.l1] at H
                  by_cases c38 : x56_3 < (l0_2.length : Int)
                  · rw [if_pos c38] at H
                    have c38b0 : decide (x56_3 < (l0_2.length : Int)) = true := decide_eq_true c38
                    clear c38
                    by_cases c39 : 0 ≤ x56_3
                    · rw [if_pos c39] at H
                      have c39b0 : decide (0 ≤ x56_3) = true := decide_eq_true c39
                      clear c39
                      by_cases c40 : x56_3 < (x194002_3.length : Int)
                      · rw [if_pos c40] at H
                        have c40b0 : decide (x56_3 < (x194002_3.length : Int)) = true := decide_eq_true c40
                        clear c40
                        by_cases c41 : x56_3 < (l1_2.length : Int)
                        · rw [if_pos c41] at H
                          have c41b0 : decide (x56_3 < (l1_2.length : Int)) = true := decide_eq_true c41
                          clear c41
                          by_cases c42 : (!(((rd_T47 x194002_3 x56_3).f0) == ((rd_T47 l1_2 x56_3).f0)) || ((!(((rd_T47 x194002_3 x56_3).f1.f0) == ((rd_T47 l1_2 x56_3).f1.f0)) || ((!(((rd_T47 x194002_3 x56_3).f1.f1.f0) == ((rd_T47 l1_2 x56_3).f1.f1.f0)) || (!(((rd_T47 x194002_3 x56_3).f1.f1.f1) == ((rd_T47 l1_2 x56_3).f1.f1.f1)) || (!(((rd_T47 x194002_3 x56_3).f1.f1.f2) == ((rd_T47 l1_2 x56_3).f1.f1.f2)) || (!(((rd_T47 x194002_3 x56_3).f1.f1.f3) == ((rd_T47 l1_2 x56_3).f1.f1.f3)) || (!(((rd_T47 x194002_3 x56_3).f1.f1.f4) == ((rd_T47 l1_2 x56_3).f1.f1.f4)) || (!(((rd_T47 x194002_3 x56_3).f1.f1.f5) == ((rd_T47 l1_2 x56_3).f1.f1.f5)) || (!(((rd_T47 x194002_3 x56_3).f1.f1.f6) == ((rd_T47 l1_2 x56_3).f1.f1.f6)) || (!(((rd_T47 x194002_3 x56_3).f1.f1.f7) == ((rd_T47 l1_2 x56_3).f1.f1.f7)) || (!(((rd_T47 x194002_3 x56_3).f1.f1.f8) == ((rd_T47 l1_2 x56_3).f1.f1.f8))))))))))))))) = true
                          · rw [if_pos c42] at H
                            have c42b0 : (!(((rd_T47 x194002_3 x56_3).f0) == ((rd_T47 l1_2 x56_3).f0)) || ((!(((rd_T47 x194002_3 x56_3).f1.f0) == ((rd_T47 l1_2 x56_3).f1.f0)) || ((!(((rd_T47 x194002_3 x56_3).f1.f1.f0) == ((rd_T47 l1_2 x56_3).f1.f1.f0)) || (!(((rd_T47 x194002_3 x56_3).f1.f1.f1) == ((rd_T47 l1_2 x56_3).f1.f1.f1)) || (!(((rd_T47 x194002_3 x56_3).f1.f1.f2) == ((rd_T47 l1_2 x56_3).f1.f1.f2)) || (!(((rd_T47 x194002_3 x56_3).f1.f1.f3) == ((rd_T47 l1_2 x56_3).f1.f1.f3)) || (!(((rd_T47 x194002_3 x56_3).f1.f1.f4) == ((rd_T47 l1_2 x56_3).f1.f1.f4)) || (!(((rd_T47 x194002_3 x56_3).f1.f1.f5) == ((rd_T47 l1_2 x56_3).f1.f1.f5)) || (!(((rd_T47 x194002_3 x56_3).f1.f1.f6) == ((rd_T47 l1_2 x56_3).f1.f1.f6)) || (!(((rd_T47 x194002_3 x56_3).f1.f1.f7) == ((rd_T47 l1_2 x56_3).f1.f1.f7)) || (!(((rd_T47 x194002_3 x56_3).f1.f1.f8) == ((rd_T47 l1_2 x56_3).f1.f1.f8))))))))))))))) = true := c42
                            clear c42
                            simp only [Option.some.injEq, Prod.mk.injEq] at H
                            obtain ⟨rfl, rfl, rfl⟩ := H
                            have hnb43 := NB193_194.out
                            have hnc43 := NB194_193.out
                            have hcz44_0 : wr.cell? ⟨gb193, 0, none⟩ = some (.slice Ao4 x194000_2.length co4) := (blk_cell BK193.out 0).trans rfl
                            have hcz44_1 : wr.cell? ⟨gb193, 1, none⟩ = some (.int .i64 a0_1) := (blk_cell BK193.out 1).trans rfl
                            have hcz44_2 : wr.cell? ⟨gb193, 2, none⟩ = some (.slice Ao5 x194002_3.length co5) := (blk_cell BK193.out 2).trans rfl
                            have hfz44_0 := blk_frozen BK193.out 0
                            have hfz44_1 := blk_frozen BK193.out 1
                            have hfz44_2 := blk_frozen BK193.out 2
                            have p198 : 0 ≤ (x56_3 : Int) := of_decide_eq_true (by first | (with_reducible assumption) | assumption)
                            have q198 : x56_3 < (x194002_3.length : Int) := of_decide_eq_true (by first | (with_reducible assumption) | assumption)
                            obtain ⟨ad198, e198, hx198_0, hx198_1, hx198_2, hx198_3, hx198_4, hx198_5, hx198_6, hx198_7, hx198_8, hx198_9, hx198_10⟩ := at_T47 (Kd.R_reads' HO_194002.out).2.2 x56_3 p198 q198
                            cases e198
                            replace p198 := eq_true p198
                            replace q198 := eq_true q198
                            have hcz45_0 : wr.cell? ⟨gb194, 0, none⟩ = some (.slice A1_0 l1_0.length c1_0) := (blk_cell BK194.out 0).trans rfl
                            have hcz45_1 : wr.cell? ⟨gb194, 1, none⟩ = some (.int .i64 a1_1) := (blk_cell BK194.out 1).trans rfl
                            have hcz45_2 : wr.cell? ⟨gb194, 2, none⟩ = some (.slice A1_2 l1_2.length c1_2) := (blk_cell BK194.out 2).trans rfl
                            have hfz45_0 := blk_frozen BK194.out 0
                            have hfz45_1 := blk_frozen BK194.out 1
                            have hfz45_2 := blk_frozen BK194.out 2
                            have p199 : 0 ≤ (x56_3 : Int) := of_decide_eq_true (by first | (with_reducible assumption) | assumption)
                            have q199 : x56_3 < (l1_2.length : Int) := of_decide_eq_true (by first | (with_reducible assumption) | assumption)
                            obtain ⟨ad199, e199, hx199_0, hx199_1, hx199_2, hx199_3, hx199_4, hx199_5, hx199_6, hx199_7, hx199_8, hx199_9, hx199_10⟩ := at_T47 (Kd.C_kept_now HR1_2.out HK.out) x56_3 p199 q199
                            cases e199
                            replace p199 := eq_true p199
                            replace q199 := eq_true q199
                            go_wp2
                            repeat (go_quiet (fail); try go_wp2)
                            go_ret
                            exact ⟨by first | rfl | (simp [errW_none, errW_some] <;> rfl) | (simp [*, errW_none, errW_some] <;> rfl), (by first | exact (by (with_reducible repeat (first | apply Kd.R_alloc | apply Kd.R_drewN | apply Kd.R_drew)); exact HO_194000.out) | (simp only [hl194000_2, hl194002_3]; exact (by (with_reducible repeat (first | apply Kd.R_alloc | apply Kd.R_drewN | apply Kd.R_drew)); exact HO_194000.out))), (by first | exact (by (with_reducible repeat (first | apply Kd.R_alloc | apply Kd.R_drewN | apply Kd.R_drew)); exact HO_194002.out) | (simp only [hl194000_2, hl194002_3]; exact (by (with_reducible repeat (first | apply Kd.R_alloc | apply Kd.R_drewN | apply Kd.R_drew)); exact HO_194002.out))), by repeat (first | (with_reducible first | exact HB.out | apply below_alloc | apply pw_below_drewN | apply below_drew1 | refine below_set ?_ GE193.out | refine below_set ?_ GE194.out) | exact HB.out), by repeat (first | (with_reducible first | exact HK.out | apply Kept.alloc | apply Kept.drewN | apply Kept.drew | refine Kept.setCell ?_ (.inr GW193.out) _ | refine Kept.setCell ?_ (.inr GW194.out) _) | exact HK.out)⟩
                          · rw [if_neg c42] at H
                            have c42b0 : (!(((rd_T47 x194002_3 x56_3).f0) == ((rd_T47 l1_2 x56_3).f0)) || ((!(((rd_T47 x194002_3 x56_3).f1.f0) == ((rd_T47 l1_2 x56_3).f1.f0)) || ((!(((rd_T47 x194002_3 x56_3).f1.f1.f0) == ((rd_T47 l1_2 x56_3).f1.f1.f0)) || (!(((rd_T47 x194002_3 x56_3).f1.f1.f1) == ((rd_T47 l1_2 x56_3).f1.f1.f1)) || (!(((rd_T47 x194002_3 x56_3).f1.f1.f2) == ((rd_T47 l1_2 x56_3).f1.f1.f2)) || (!(((rd_T47 x194002_3 x56_3).f1.f1.f3) == ((rd_T47 l1_2 x56_3).f1.f1.f3)) || (!(((rd_T47 x194002_3 x56_3).f1.f1.f4) == ((rd_T47 l1_2 x56_3).f1.f1.f4)) || (!(((rd_T47 x194002_3 x56_3).f1.f1.f5) == ((rd_T47 l1_2 x56_3).f1.f1.f5)) || (!(((rd_T47 x194002_3 x56_3).f1.f1.f6) == ((rd_T47 l1_2 x56_3).f1.f1.f6)) || (!(((rd_T47 x194002_3 x56_3).f1.f1.f7) == ((rd_T47 l1_2 x56_3).f1.f1.f7)) || (!(((rd_T47 x194002_3 x56_3).f1.f1.f8) == ((rd_T47 l1_2 x56_3).f1.f1.f8))))))))))))))) = false := by simpa using c42
                            clear c42
                            obtain ⟨y200, hy200⟩ : ∃ y_ : List (S47), y_ = (x194002_3.set (x56_3 : Int).toNat (⟨(-1), (⟨0, (⟨0, 0, 0, 0, 0, 0, 0, 0, 0⟩ : S43)⟩ : S45)⟩ : S47)) := ⟨_, rfl⟩
                            replace H : (larderlaw14_holds.l1 k3 (l0_2.length : Int) (wrap64 (x56_3 + 1)) x194000_2 a0_1 y200 l1_0 a1_1 l1_2) = some (r1, r2, r3) := by first | (rw [hy200]; with_reducible exact H) | (have H2_ := (Option.bind_some _ _).symm.trans H; rw [hy200]; with_reducible exact H2_) | (have H2_ := (Option.bind_some _ _).symm.trans H; with_reducible exact H2_) | with_reducible exact H | (rw [hy200]; exact H) | exact H
                            have Ny200 := Aside0.mk hy200
                            clear hy200
                            have H' := Aside0.mk H
                            clear H
                            have hnb47 := NB193_194.out
                            have hnc47 := NB194_193.out
                            have hcz48_0 : wr.cell? ⟨gb193, 0, none⟩ = some (.slice Ao4 x194000_2.length co4) := (blk_cell BK193.out 0).trans rfl
                            have hcz48_1 : wr.cell? ⟨gb193, 1, none⟩ = some (.int .i64 a0_1) := (blk_cell BK193.out 1).trans rfl
                            have hcz48_2 : wr.cell? ⟨gb193, 2, none⟩ = some (.slice Ao5 x194002_3.length co5) := (blk_cell BK193.out 2).trans rfl
                            have hfz48_0 := blk_frozen BK193.out 0
                            have hfz48_1 := blk_frozen BK193.out 1
                            have hfz48_2 := blk_frozen BK193.out 2
                            have p198 : 0 ≤ (x56_3 : Int) := of_decide_eq_true (by first | (with_reducible assumption) | assumption)
                            have q198 : x56_3 < (x194002_3.length : Int) := of_decide_eq_true (by first | (with_reducible assumption) | assumption)
                            obtain ⟨ad198, e198, hx198_0, hx198_1, hx198_2, hx198_3, hx198_4, hx198_5, hx198_6, hx198_7, hx198_8, hx198_9, hx198_10⟩ := at_T47 (Kd.R_reads' HO_194002.out).2.2 x56_3 p198 q198
                            cases e198
                            replace p198 := eq_true p198
                            replace q198 := eq_true q198
                            have hcz49_0 : wr.cell? ⟨gb194, 0, none⟩ = some (.slice A1_0 l1_0.length c1_0) := (blk_cell BK194.out 0).trans rfl
                            have hcz49_1 : wr.cell? ⟨gb194, 1, none⟩ = some (.int .i64 a1_1) := (blk_cell BK194.out 1).trans rfl
                            have hcz49_2 : wr.cell? ⟨gb194, 2, none⟩ = some (.slice A1_2 l1_2.length c1_2) := (blk_cell BK194.out 2).trans rfl
                            have hfz49_0 := blk_frozen BK194.out 0
                            have hfz49_1 := blk_frozen BK194.out 1
                            have hfz49_2 := blk_frozen BK194.out 2
                            have p199 : 0 ≤ (x56_3 : Int) := of_decide_eq_true (by first | (with_reducible assumption) | assumption)
                            have q199 : x56_3 < (l1_2.length : Int) := of_decide_eq_true (by first | (with_reducible assumption) | assumption)
                            obtain ⟨ad199, e199, hx199_0, hx199_1, hx199_2, hx199_3, hx199_4, hx199_5, hx199_6, hx199_7, hx199_8, hx199_9, hx199_10⟩ := at_T47 (Kd.C_kept_now HR1_2.out HK.out) x56_3 p199 q199
                            cases e199
                            replace p199 := eq_true p199
                            replace q199 := eq_true q199
                            have p46 : 0 ≤ (x56_3 : Int) := of_decide_eq_true (by first | (with_reducible assumption) | assumption)
                            have q46 : (x56_3 : Int) < ((x194002_3.length : Int) : Int) := of_decide_eq_true (by first | (with_reducible assumption) | assumption)
                            obtain ⟨go46, co46, eo46, gb46, gl46, cl46, HG46⟩ := Kd.R_form HO_194002.out (by omega)
                            (first | cases eo46 | (injection eo46 with ea_ en_ ec_; (first | subst ea_ | (injection ea_ with ea_; subst ea_)); subst ec_; clear en_))
                            have GB46 := Aside0.mk gb46
                            have GG46 := Aside0.mk HG46
                            clear gb46 gl46 HG46
                            have HMgo46 := Aside0.mk (show ((P0_0_ go46 ∨ P0_2_ go46) ∨ w.heap.size ≤ go46) from (HO_194002.out.1 _ rfl))
                            (first | simp only [add_plain] at hx198_0 | skip)
                            (first | simp only [add_plain] at hx198_1 | skip)
                            (first | simp only [add_plain] at hx198_2 | skip)
                            (first | simp only [add_plain] at hx198_3 | skip)
                            (first | simp only [add_plain] at hx198_4 | skip)
                            (first | simp only [add_plain] at hx198_5 | skip)
                            (first | simp only [add_plain] at hx198_6 | skip)
                            (first | simp only [add_plain] at hx198_7 | skip)
                            (first | simp only [add_plain] at hx198_8 | skip)
                            (first | simp only [add_plain] at hx198_9 | skip)
                            (first | simp only [add_plain] at hx198_10 | skip)
                            obtain ⟨ce46, hcl46, hM46, hcc46, hfr46⟩ := Kd.R_elem HO_194002.out z47 (x56_3 : Int) p46 q46
                            obtain rfl := k47_openM hM46
                            have hx46_0 : wr.cell? ⟨go46, (x56_3 : Int).toNat * 11, none⟩ = some (.int .i64 ((rd_T47 x194002_3 x56_3).f0)) := hcc46 0 _ rfl
                            have hx46_1 : wr.cell? ⟨go46, (x56_3 : Int).toNat * 11 + 1, none⟩ = some (.int .i64 ((rd_T47 x194002_3 x56_3).f1.f0)) := hcc46 1 _ rfl
                            have hx46_2 : wr.cell? ⟨go46, (x56_3 : Int).toNat * 11 + 2, none⟩ = some (.int .i64 ((rd_T47 x194002_3 x56_3).f1.f1.f0)) := hcc46 2 _ rfl
                            have hx46_3 : wr.cell? ⟨go46, (x56_3 : Int).toNat * 11 + 3, none⟩ = some (.int .i64 ((rd_T47 x194002_3 x56_3).f1.f1.f1)) := hcc46 3 _ rfl
                            have hx46_4 : wr.cell? ⟨go46, (x56_3 : Int).toNat * 11 + 4, none⟩ = some (.int .i64 ((rd_T47 x194002_3 x56_3).f1.f1.f2)) := hcc46 4 _ rfl
                            have hx46_5 : wr.cell? ⟨go46, (x56_3 : Int).toNat * 11 + 5, none⟩ = some (.int .i64 ((rd_T47 x194002_3 x56_3).f1.f1.f3)) := hcc46 5 _ rfl
                            have hx46_6 : wr.cell? ⟨go46, (x56_3 : Int).toNat * 11 + 6, none⟩ = some (.int .i64 ((rd_T47 x194002_3 x56_3).f1.f1.f4)) := hcc46 6 _ rfl
                            have hx46_7 : wr.cell? ⟨go46, (x56_3 : Int).toNat * 11 + 7, none⟩ = some (.int .i64 ((rd_T47 x194002_3 x56_3).f1.f1.f5)) := hcc46 7 _ rfl
                            have hx46_8 : wr.cell? ⟨go46, (x56_3 : Int).toNat * 11 + 8, none⟩ = some (.int .i64 ((rd_T47 x194002_3 x56_3).f1.f1.f6)) := hcc46 8 _ rfl
                            have hx46_9 : wr.cell? ⟨go46, (x56_3 : Int).toNat * 11 + 9, none⟩ = some (.int .i64 ((rd_T47 x194002_3 x56_3).f1.f1.f7)) := hcc46 9 _ rfl
                            have hx46_10 : wr.cell? ⟨go46, (x56_3 : Int).toNat * 11 + 10, none⟩ = some (.int .i64 ((rd_T47 x194002_3 x56_3).f1.f1.f8)) := hcc46 10 _ rfl
                            have hf46_0 : wr.frozen? ⟨go46, (x56_3 : Int).toNat * 11, none⟩ = false := hfr46 0
                            have hf46_1 : wr.frozen? ⟨go46, (x56_3 : Int).toNat * 11 + 1, none⟩ = false := hfr46 1
                            have hf46_2 : wr.frozen? ⟨go46, (x56_3 : Int).toNat * 11 + 2, none⟩ = false := hfr46 2
                            have hf46_3 : wr.frozen? ⟨go46, (x56_3 : Int).toNat * 11 + 3, none⟩ = false := hfr46 3
                            have hf46_4 : wr.frozen? ⟨go46, (x56_3 : Int).toNat * 11 + 4, none⟩ = false := hfr46 4
                            have hf46_5 : wr.frozen? ⟨go46, (x56_3 : Int).toNat * 11 + 5, none⟩ = false := hfr46 5
                            have hf46_6 : wr.frozen? ⟨go46, (x56_3 : Int).toNat * 11 + 6, none⟩ = false := hfr46 6
                            have hf46_7 : wr.frozen? ⟨go46, (x56_3 : Int).toNat * 11 + 7, none⟩ = false := hfr46 7
                            have hf46_8 : wr.frozen? ⟨go46, (x56_3 : Int).toNat * 11 + 8, none⟩ = false := hfr46 8
                            have hf46_9 : wr.frozen? ⟨go46, (x56_3 : Int).toNat * 11 + 9, none⟩ = false := hfr46 9
                            have hf46_10 : wr.frozen? ⟨go46, (x56_3 : Int).toNat * 11 + 10, none⟩ = false := hfr46 10
                            clear hcl46 hcc46 hfr46 hM46
                            replace p46 := eq_true p46
                            replace q46 := eq_true q46
                            have HX50 := Aside0.mk (show Kd.R k47 47 wr w0.heap.size (fun k_ => ((P0_0_ k_ ∨ P0_2_ k_) ∨ w.heap.size ≤ k_)) (.slice (some ⟨go46, 0, none⟩) x194002_3.length co5) x194002_3 from (by (with_reducible repeat (first | apply Kd.R_alloc | apply Kd.R_drewN | apply Kd.R_drew)); exact HO_194002.out))
                            obtain ⟨ce50, hcl50, hM50, hcc50, hfr50⟩ := Kd.R_elem HX50.out z47 (x56_3 : Int) (of_decide_eq_true (by first | (with_reducible assumption) | assumption)) (by have h_ : (x56_3 : Int) < ((x194002_3.length : Int) : Int) := of_decide_eq_true (by first | (with_reducible assumption) | assumption); first | exact h_ | (have e_ := (Kd.R_reads' HO_194002.out).1; omega) | simpa using h_)
                            obtain rfl := k47_openM hM50
                            have HP50 := Kd.R_seg HX50.out (x56_3 : Int) (of_decide_eq_true (by first | (with_reducible assumption) | assumption)) (by have h_ : (x56_3 : Int) < ((x194002_3.length : Int) : Int) := of_decide_eq_true (by first | (with_reducible assumption) | assumption); first | exact h_ | (have e_ := (Kd.R_reads' HO_194002.out).1; omega) | simpa using h_) (seg := [.int .i64 (-1), .int .i64 0, .int .i64 0, .int .i64 0, .int .i64 0, .int .i64 0, .int .i64 0, .int .i64 0, .int .i64 0, .int .i64 0, .int .i64 0]) (j := 0) hcl50 hcc50 (show 11 ≤ 11 from by decide) (x' := (⟨(-1), (⟨0, (⟨0, 0, 0, 0, 0, 0, 0, 0, 0⟩ : S43)⟩ : S45)⟩ : S47)) (k47_mkM _ _ _ (⟨(-1), (⟨0, (⟨0, 0, 0, 0, 0, 0, 0, 0, 0⟩ : S43)⟩ : S45)⟩ : S47) ) (fun _ hk => hk)
                            have hx50_0 := hcc50 0 _ rfl
                            (try simp only [show (k47).sz = 11 from rfl, Nat.mul_one, Nat.add_zero] at hx50_0)
                            have hf50_0 := hfr50 0
                            (try simp only [show (k47).sz = 11 from rfl, Nat.mul_one, Nat.add_zero] at hf50_0)
                            have hx50_1 := hcc50 1 _ rfl
                            (try simp only [show (k47).sz = 11 from rfl, Nat.mul_one, Nat.add_zero] at hx50_1)
                            have hf50_1 := hfr50 1
                            (try simp only [show (k47).sz = 11 from rfl, Nat.mul_one, Nat.add_zero] at hf50_1)
                            have hx50_2 := hcc50 2 _ rfl
                            (try simp only [show (k47).sz = 11 from rfl, Nat.mul_one, Nat.add_zero] at hx50_2)
                            have hf50_2 := hfr50 2
                            (try simp only [show (k47).sz = 11 from rfl, Nat.mul_one, Nat.add_zero] at hf50_2)
                            have hx50_3 := hcc50 3 _ rfl
                            (try simp only [show (k47).sz = 11 from rfl, Nat.mul_one, Nat.add_zero] at hx50_3)
                            have hf50_3 := hfr50 3
                            (try simp only [show (k47).sz = 11 from rfl, Nat.mul_one, Nat.add_zero] at hf50_3)
                            have hx50_4 := hcc50 4 _ rfl
                            (try simp only [show (k47).sz = 11 from rfl, Nat.mul_one, Nat.add_zero] at hx50_4)
                            have hf50_4 := hfr50 4
                            (try simp only [show (k47).sz = 11 from rfl, Nat.mul_one, Nat.add_zero] at hf50_4)
                            have hx50_5 := hcc50 5 _ rfl
                            (try simp only [show (k47).sz = 11 from rfl, Nat.mul_one, Nat.add_zero] at hx50_5)
                            have hf50_5 := hfr50 5
                            (try simp only [show (k47).sz = 11 from rfl, Nat.mul_one, Nat.add_zero] at hf50_5)
                            have hx50_6 := hcc50 6 _ rfl
                            (try simp only [show (k47).sz = 11 from rfl, Nat.mul_one, Nat.add_zero] at hx50_6)
                            have hf50_6 := hfr50 6
                            (try simp only [show (k47).sz = 11 from rfl, Nat.mul_one, Nat.add_zero] at hf50_6)
                            have hx50_7 := hcc50 7 _ rfl
                            (try simp only [show (k47).sz = 11 from rfl, Nat.mul_one, Nat.add_zero] at hx50_7)
                            have hf50_7 := hfr50 7
                            (try simp only [show (k47).sz = 11 from rfl, Nat.mul_one, Nat.add_zero] at hf50_7)
                            have hx50_8 := hcc50 8 _ rfl
                            (try simp only [show (k47).sz = 11 from rfl, Nat.mul_one, Nat.add_zero] at hx50_8)
                            have hf50_8 := hfr50 8
                            (try simp only [show (k47).sz = 11 from rfl, Nat.mul_one, Nat.add_zero] at hf50_8)
                            have hx50_9 := hcc50 9 _ rfl
                            (try simp only [show (k47).sz = 11 from rfl, Nat.mul_one, Nat.add_zero] at hx50_9)
                            have hf50_9 := hfr50 9
                            (try simp only [show (k47).sz = 11 from rfl, Nat.mul_one, Nat.add_zero] at hf50_9)
                            have hx50_10 := hcc50 10 _ rfl
                            (try simp only [show (k47).sz = 11 from rfl, Nat.mul_one, Nat.add_zero] at hx50_10)
                            have hf50_10 := hfr50 10
                            (try simp only [show (k47).sz = 11 from rfl, Nat.mul_one, Nat.add_zero] at hf50_10)
                            clear hcl50 hcc50 hfr50 hM50
                            go_wp2_with (first | ((with_reducible refine gate_store (t := 47) (p := 74) rfl ?_); (try (rw [drewN_self wr]; generalize hq_ : World.drewN wr _ = wr; have n0_ := Aside0.mk (Kd.R_at hq_ HO_194000.out); have n1_ := Aside0.mk (Kd.R_at hq_ HO_194002.out); have n2_ := Aside0.mk (blk_at hq_ BK193.out); have n3_ := Aside0.mk (blk_at hq_ BK194.out); have n4_ := Aside0.mk (kept_at hq_ HK.out); have n5_ := Aside0.mk (below_at hq_ HB.out); clear hq_ HO_194000 HO_194002 BK193 BK194 HK HB; have HO_194000 := n0_; have HO_194002 := n1_; have BK193 := n2_; have BK194 := n3_; have HK := n4_; have HB := n5_; clear n0_ n1_ n2_ n3_ n4_ n5_; (try (have HX50 := Aside0.mk (show Kd.R k47 47 wr w0.heap.size (fun k_ => ((P0_0_ k_ ∨ P0_2_ k_) ∨ w.heap.size ≤ k_)) (.slice (some ⟨go46, 0, none⟩) x194002_3.length co5) x194002_3 from (by (with_reducible repeat (first | apply Kd.R_alloc | apply Kd.R_drewN | apply Kd.R_drew)); exact HO_194002.out)))); (try (obtain ⟨ce50, hcl50, hM50, hcc50, hfr50⟩ := Kd.R_elem HX50.out z47 (x56_3 : Int) (of_decide_eq_true (by first | (with_reducible assumption) | assumption)) (by have h_ : (x56_3 : Int) < ((x194002_3.length : Int) : Int) := of_decide_eq_true (by first | (with_reducible assumption) | assumption); first | exact h_ | (have e_ := (Kd.R_reads' HO_194002.out).1; omega) | simpa using h_))); (try (obtain rfl := k47_openM hM50)); (try (have HP50 := Kd.R_seg HX50.out (x56_3 : Int) (of_decide_eq_true (by first | (with_reducible assumption) | assumption)) (by have h_ : (x56_3 : Int) < ((x194002_3.length : Int) : Int) := of_decide_eq_true (by first | (with_reducible assumption) | assumption); first | exact h_ | (have e_ := (Kd.R_reads' HO_194002.out).1; omega) | simpa using h_) (seg := [.int .i64 (-1), .int .i64 0, .int .i64 0, .int .i64 0, .int .i64 0, .int .i64 0, .int .i64 0, .int .i64 0, .int .i64 0, .int .i64 0, .int .i64 0]) (j := 0) hcl50 hcc50 (show 11 ≤ 11 from by decide) (x' := (⟨(-1), (⟨0, (⟨0, 0, 0, 0, 0, 0, 0, 0, 0⟩ : S43)⟩ : S45)⟩ : S47)) (k47_mkM _ _ _ (⟨(-1), (⟨0, (⟨0, 0, 0, 0, 0, 0, 0, 0, 0⟩ : S43)⟩ : S45)⟩ : S47) ) (fun _ hk => hk))); (try (have hx50_0 := hcc50 0 _ rfl)); (try (try simp only [show (k47).sz = 11 from rfl, Nat.mul_one, Nat.add_zero] at hx50_0)); (try (have hf50_0 := hfr50 0)); (try (try simp only [show (k47).sz = 11 from rfl, Nat.mul_one, Nat.add_zero] at hf50_0)); (try (have hx50_1 := hcc50 1 _ rfl)); (try (try simp only [show (k47).sz = 11 from rfl, Nat.mul_one, Nat.add_zero] at hx50_1)); (try (have hf50_1 := hfr50 1)); (try (try simp only [show (k47).sz = 11 from rfl, Nat.mul_one, Nat.add_zero] at hf50_1)); (try (have hx50_2 := hcc50 2 _ rfl)); (try (try simp only [show (k47).sz = 11 from rfl, Nat.mul_one, Nat.add_zero] at hx50_2)); (try (have hf50_2 := hfr50 2)); (try (try simp only [show (k47).sz = 11 from rfl, Nat.mul_one, Nat.add_zero] at hf50_2)); (try (have hx50_3 := hcc50 3 _ rfl)); (try (try simp only [show (k47).sz = 11 from rfl, Nat.mul_one, Nat.add_zero] at hx50_3)); (try (have hf50_3 := hfr50 3)); (try (try simp only [show (k47).sz = 11 from rfl, Nat.mul_one, Nat.add_zero] at hf50_3)); (try (have hx50_4 := hcc50 4 _ rfl)); (try (try simp only [show (k47).sz = 11 from rfl, Nat.mul_one, Nat.add_zero] at hx50_4)); (try (have hf50_4 := hfr50 4)); (try (try simp only [show (k47).sz = 11 from rfl, Nat.mul_one, Nat.add_zero] at hf50_4)); (try (have hx50_5 := hcc50 5 _ rfl)); (try (try simp only [show (k47).sz = 11 from rfl, Nat.mul_one, Nat.add_zero] at hx50_5)); (try (have hf50_5 := hfr50 5)); (try (try simp only [show (k47).sz = 11 from rfl, Nat.mul_one, Nat.add_zero] at hf50_5)); (try (have hx50_6 := hcc50 6 _ rfl)); (try (try simp only [show (k47).sz = 11 from rfl, Nat.mul_one, Nat.add_zero] at hx50_6)); (try (have hf50_6 := hfr50 6)); (try (try simp only [show (k47).sz = 11 from rfl, Nat.mul_one, Nat.add_zero] at hf50_6)); (try (have hx50_7 := hcc50 7 _ rfl)); (try (try simp only [show (k47).sz = 11 from rfl, Nat.mul_one, Nat.add_zero] at hx50_7)); (try (have hf50_7 := hfr50 7)); (try (try simp only [show (k47).sz = 11 from rfl, Nat.mul_one, Nat.add_zero] at hf50_7)); (try (have hx50_8 := hcc50 8 _ rfl)); (try (try simp only [show (k47).sz = 11 from rfl, Nat.mul_one, Nat.add_zero] at hx50_8)); (try (have hf50_8 := hfr50 8)); (try (try simp only [show (k47).sz = 11 from rfl, Nat.mul_one, Nat.add_zero] at hf50_8)); (try (have hx50_9 := hcc50 9 _ rfl)); (try (try simp only [show (k47).sz = 11 from rfl, Nat.mul_one, Nat.add_zero] at hx50_9)); (try (have hf50_9 := hfr50 9)); (try (try simp only [show (k47).sz = 11 from rfl, Nat.mul_one, Nat.add_zero] at hf50_9)); (try (have hx50_10 := hcc50 10 _ rfl)); (try (try simp only [show (k47).sz = 11 from rfl, Nat.mul_one, Nat.add_zero] at hx50_10)); (try (have hf50_10 := hfr50 10)); (try (try simp only [show (k47).sz = 11 from rfl, Nat.mul_one, Nat.add_zero] at hf50_10)); (try (clear hcl50 hcc50 hfr50 hM50)))); refine store_event (t := 47) (p := 74) (v := ?vo_w51) (w1 := (((((((((((wr.setCell ⟨go46, (x56_3 : Int).toNat * 11, none⟩ (.int .i64 (-1))).setCell ⟨go46, (x56_3 : Int).toNat * 11 + 1, none⟩ (.int .i64 0)).setCell ⟨go46, (x56_3 : Int).toNat * 11 + 2, none⟩ (.int .i64 0)).setCell ⟨go46, (x56_3 : Int).toNat * 11 + 3, none⟩ (.int .i64 0)).setCell ⟨go46, (x56_3 : Int).toNat * 11 + 4, none⟩ (.int .i64 0)).setCell ⟨go46, (x56_3 : Int).toNat * 11 + 5, none⟩ (.int .i64 0)).setCell ⟨go46, (x56_3 : Int).toNat * 11 + 6, none⟩ (.int .i64 0)).setCell ⟨go46, (x56_3 : Int).toNat * 11 + 7, none⟩ (.int .i64 0)).setCell ⟨go46, (x56_3 : Int).toNat * 11 + 8, none⟩ (.int .i64 0)).setCell ⟨go46, (x56_3 : Int).toNat * 11 + 9, none⟩ (.int .i64 0)).setCell ⟨go46, (x56_3 : Int).toNat * 11 + 10, none⟩ (.int .i64 0))) ?hg ?ho ?hn ?hr ?_; (case ho => rfl); (case hg => rfl); (case hn => rfl); (case hr => first | (go_simp; done) | (go_simp; rfl)); intro w51 hw; have hg : wr.grownBy w51 (some go46) := (by rw [hw]; exact HP50.2); have hp_ : Kd.R k47 47 w51 w0.heap.size (fun k_ => ((P0_0_ k_ ∨ P0_2_ k_) ∨ w.heap.size ≤ k_)) (.slice (some ⟨go46, 0, none⟩) x194002_3.length co5) y200 := (by rw [hw, Ny200.out]; exact HP50.1); clear HP50; have n0_ := Aside0.mk (Kd.R_over' (v := (.slice (some ⟨go46, 0, none⟩) x194002_3.length co5)) (by (with_reducible repeat (first | apply Kd.R_alloc | apply Kd.R_drewN | apply Kd.R_drew)); exact HO_194000.out) (Kd.R_typed HO_194002.out) (by decide) hg); have n1_ := Aside0.mk (hp_); have n2_ := Aside0.mk (blk_grown (g := gb193) (o := .cells #[.slice Ao4 x194000_2.length co4, .int .i64 a0_1, .slice (some ⟨go46, 0, none⟩) x194002_3.length co5] 26 (0, 0)) (by (with_reducible repeat (first | refine blk_drewN ?_ _ | refine blk_drew ?_ | refine blk_alloc ?_ _)); exact BK193.out) hg (Kd.R_ne HO_194002.out BK193.out (by decide))); have n3_ := Aside0.mk (blk_grown (g := gb194) (o := .cells #[.slice A1_0 l1_0.length c1_0, .int .i64 a1_1, .slice (some ad199) l1_2.length c1_2] 26 (0, 0)) (by (with_reducible repeat (first | refine blk_drewN ?_ _ | refine blk_drew ?_ | refine blk_alloc ?_ _)); exact BK194.out) hg (Kd.R_ne HO_194002.out BK194.out (by decide))); have n4_ := Aside0.mk ((by rw [hw]; exact below_set (below_set (below_set (below_set (below_set (below_set (below_set (below_set (below_set (below_set (below_set (HB.out) GB46.out) GB46.out) GB46.out) GB46.out) GB46.out) GB46.out) GB46.out) GB46.out) GB46.out) GB46.out) GB46.out : Below w0.heap.size w0 w51)); have n5_ := Aside0.mk (Kept.of_grown (S := (fun k_ => P0_0_ k_ ∨ P0_2_ k_)) hg (by repeat (first | (with_reducible first | exact HK.out | apply Kept.alloc | apply Kept.drewN | apply Kept.drew | refine Kept.setCell ?_ (.inr GW193.out) _ | refine Kept.setCell ?_ (.inr GW194.out) _) | exact HK.out)) (fun k_ e_ => (HO_194002.out.1 k_ e_))); clear HO_194000; clear HO_194002; clear BK193; clear BK194; clear HB; clear HK; have HO_194000 := n0_; have HO_194002 := n1_; have BK193 := n2_; have BK194 := n3_; have HB := n4_; have HK := n5_; clear n0_ n1_ n2_ n3_ n4_ n5_; clear hg hw hp_))
                            repeat (go_quiet (first | ((with_reducible refine gate_store (t := 47) (p := 74) rfl ?_); (try (rw [drewN_self wr]; generalize hq_ : World.drewN wr _ = wr; have n0_ := Aside0.mk (Kd.R_at hq_ HO_194000.out); have n1_ := Aside0.mk (Kd.R_at hq_ HO_194002.out); have n2_ := Aside0.mk (blk_at hq_ BK193.out); have n3_ := Aside0.mk (blk_at hq_ BK194.out); have n4_ := Aside0.mk (kept_at hq_ HK.out); have n5_ := Aside0.mk (below_at hq_ HB.out); clear hq_ HO_194000 HO_194002 BK193 BK194 HK HB; have HO_194000 := n0_; have HO_194002 := n1_; have BK193 := n2_; have BK194 := n3_; have HK := n4_; have HB := n5_; clear n0_ n1_ n2_ n3_ n4_ n5_; (try (have HX50 := Aside0.mk (show Kd.R k47 47 wr w0.heap.size (fun k_ => ((P0_0_ k_ ∨ P0_2_ k_) ∨ w.heap.size ≤ k_)) (.slice (some ⟨go46, 0, none⟩) x194002_3.length co5) x194002_3 from (by (with_reducible repeat (first | apply Kd.R_alloc | apply Kd.R_drewN | apply Kd.R_drew)); exact HO_194002.out)))); (try (obtain ⟨ce50, hcl50, hM50, hcc50, hfr50⟩ := Kd.R_elem HX50.out z47 (x56_3 : Int) (of_decide_eq_true (by first | (with_reducible assumption) | assumption)) (by have h_ : (x56_3 : Int) < ((x194002_3.length : Int) : Int) := of_decide_eq_true (by first | (with_reducible assumption) | assumption); first | exact h_ | (have e_ := (Kd.R_reads' HO_194002.out).1; omega) | simpa using h_))); (try (obtain rfl := k47_openM hM50)); (try (have HP50 := Kd.R_seg HX50.out (x56_3 : Int) (of_decide_eq_true (by first | (with_reducible assumption) | assumption)) (by have h_ : (x56_3 : Int) < ((x194002_3.length : Int) : Int) := of_decide_eq_true (by first | (with_reducible assumption) | assumption); first | exact h_ | (have e_ := (Kd.R_reads' HO_194002.out).1; omega) | simpa using h_) (seg := [.int .i64 (-1), .int .i64 0, .int .i64 0, .int .i64 0, .int .i64 0, .int .i64 0, .int .i64 0, .int .i64 0, .int .i64 0, .int .i64 0, .int .i64 0]) (j := 0) hcl50 hcc50 (show 11 ≤ 11 from by decide) (x' := (⟨(-1), (⟨0, (⟨0, 0, 0, 0, 0, 0, 0, 0, 0⟩ : S43)⟩ : S45)⟩ : S47)) (k47_mkM _ _ _ (⟨(-1), (⟨0, (⟨0, 0, 0, 0, 0, 0, 0, 0, 0⟩ : S43)⟩ : S45)⟩ : S47) ) (fun _ hk => hk))); (try (have hx50_0 := hcc50 0 _ rfl)); (try (try simp only [show (k47).sz = 11 from rfl, Nat.mul_one, Nat.add_zero] at hx50_0)); (try (have hf50_0 := hfr50 0)); (try (try simp only [show (k47).sz = 11 from rfl, Nat.mul_one, Nat.add_zero] at hf50_0)); (try (have hx50_1 := hcc50 1 _ rfl)); (try (try simp only [show (k47).sz = 11 from rfl, Nat.mul_one, Nat.add_zero] at hx50_1)); (try (have hf50_1 := hfr50 1)); (try (try simp only [show (k47).sz = 11 from rfl, Nat.mul_one, Nat.add_zero] at hf50_1)); (try (have hx50_2 := hcc50 2 _ rfl)); (try (try simp only [show (k47).sz = 11 from rfl, Nat.mul_one, Nat.add_zero] at hx50_2)); (try (have hf50_2 := hfr50 2)); (try (try simp only [show (k47).sz = 11 from rfl, Nat.mul_one, Nat.add_zero] at hf50_2)); (try (have hx50_3 := hcc50 3 _ rfl)); (try (try simp only [show (k47).sz = 11 from rfl, Nat.mul_one, Nat.add_zero] at hx50_3)); (try (have hf50_3 := hfr50 3)); (try (try simp only [show (k47).sz = 11 from rfl, Nat.mul_one, Nat.add_zero] at hf50_3)); (try (have hx50_4 := hcc50 4 _ rfl)); (try (try simp only [show (k47).sz = 11 from rfl, Nat.mul_one, Nat.add_zero] at hx50_4)); (try (have hf50_4 := hfr50 4)); (try (try simp only [show (k47).sz = 11 from rfl, Nat.mul_one, Nat.add_zero] at hf50_4)); (try (have hx50_5 := hcc50 5 _ rfl)); (try (try simp only [show (k47).sz = 11 from rfl, Nat.mul_one, Nat.add_zero] at hx50_5)); (try (have hf50_5 := hfr50 5)); (try (try simp only [show (k47).sz = 11 from rfl, Nat.mul_one, Nat.add_zero] at hf50_5)); (try (have hx50_6 := hcc50 6 _ rfl)); (try (try simp only [show (k47).sz = 11 from rfl, Nat.mul_one, Nat.add_zero] at hx50_6)); (try (have hf50_6 := hfr50 6)); (try (try simp only [show (k47).sz = 11 from rfl, Nat.mul_one, Nat.add_zero] at hf50_6)); (try (have hx50_7 := hcc50 7 _ rfl)); (try (try simp only [show (k47).sz = 11 from rfl, Nat.mul_one, Nat.add_zero] at hx50_7)); (try (have hf50_7 := hfr50 7)); (try (try simp only [show (k47).sz = 11 from rfl, Nat.mul_one, Nat.add_zero] at hf50_7)); (try (have hx50_8 := hcc50 8 _ rfl)); (try (try simp only [show (k47).sz = 11 from rfl, Nat.mul_one, Nat.add_zero] at hx50_8)); (try (have hf50_8 := hfr50 8)); (try (try simp only [show (k47).sz = 11 from rfl, Nat.mul_one, Nat.add_zero] at hf50_8)); (try (have hx50_9 := hcc50 9 _ rfl)); (try (try simp only [show (k47).sz = 11 from rfl, Nat.mul_one, Nat.add_zero] at hx50_9)); (try (have hf50_9 := hfr50 9)); (try (try simp only [show (k47).sz = 11 from rfl, Nat.mul_one, Nat.add_zero] at hf50_9)); (try (have hx50_10 := hcc50 10 _ rfl)); (try (try simp only [show (k47).sz = 11 from rfl, Nat.mul_one, Nat.add_zero] at hx50_10)); (try (have hf50_10 := hfr50 10)); (try (try simp only [show (k47).sz = 11 from rfl, Nat.mul_one, Nat.add_zero] at hf50_10)); (try (clear hcl50 hcc50 hfr50 hM50)))); refine store_event (t := 47) (p := 74) (v := ?vo_w51) (w1 := (((((((((((wr.setCell ⟨go46, (x56_3 : Int).toNat * 11, none⟩ (.int .i64 (-1))).setCell ⟨go46, (x56_3 : Int).toNat * 11 + 1, none⟩ (.int .i64 0)).setCell ⟨go46, (x56_3 : Int).toNat * 11 + 2, none⟩ (.int .i64 0)).setCell ⟨go46, (x56_3 : Int).toNat * 11 + 3, none⟩ (.int .i64 0)).setCell ⟨go46, (x56_3 : Int).toNat * 11 + 4, none⟩ (.int .i64 0)).setCell ⟨go46, (x56_3 : Int).toNat * 11 + 5, none⟩ (.int .i64 0)).setCell ⟨go46, (x56_3 : Int).toNat * 11 + 6, none⟩ (.int .i64 0)).setCell ⟨go46, (x56_3 : Int).toNat * 11 + 7, none⟩ (.int .i64 0)).setCell ⟨go46, (x56_3 : Int).toNat * 11 + 8, none⟩ (.int .i64 0)).setCell ⟨go46, (x56_3 : Int).toNat * 11 + 9, none⟩ (.int .i64 0)).setCell ⟨go46, (x56_3 : Int).toNat * 11 + 10, none⟩ (.int .i64 0))) ?hg ?ho ?hn ?hr ?_; (case ho => rfl); (case hg => rfl); (case hn => rfl); (case hr => first | (go_simp; done) | (go_simp; rfl)); intro w51 hw; have hg : wr.grownBy w51 (some go46) := (by rw [hw]; exact HP50.2); have hp_ : Kd.R k47 47 w51 w0.heap.size (fun k_ => ((P0_0_ k_ ∨ P0_2_ k_) ∨ w.heap.size ≤ k_)) (.slice (some ⟨go46, 0, none⟩) x194002_3.length co5) y200 := (by rw [hw, Ny200.out]; exact HP50.1); clear HP50; have n0_ := Aside0.mk (Kd.R_over' (v := (.slice (some ⟨go46, 0, none⟩) x194002_3.length co5)) (by (with_reducible repeat (first | apply Kd.R_alloc | apply Kd.R_drewN | apply Kd.R_drew)); exact HO_194000.out) (Kd.R_typed HO_194002.out) (by decide) hg); have n1_ := Aside0.mk (hp_); have n2_ := Aside0.mk (blk_grown (g := gb193) (o := .cells #[.slice Ao4 x194000_2.length co4, .int .i64 a0_1, .slice (some ⟨go46, 0, none⟩) x194002_3.length co5] 26 (0, 0)) (by (with_reducible repeat (first | refine blk_drewN ?_ _ | refine blk_drew ?_ | refine blk_alloc ?_ _)); exact BK193.out) hg (Kd.R_ne HO_194002.out BK193.out (by decide))); have n3_ := Aside0.mk (blk_grown (g := gb194) (o := .cells #[.slice A1_0 l1_0.length c1_0, .int .i64 a1_1, .slice (some ad199) l1_2.length c1_2] 26 (0, 0)) (by (with_reducible repeat (first | refine blk_drewN ?_ _ | refine blk_drew ?_ | refine blk_alloc ?_ _)); exact BK194.out) hg (Kd.R_ne HO_194002.out BK194.out (by decide))); have n4_ := Aside0.mk ((by rw [hw]; exact below_set (below_set (below_set (below_set (below_set (below_set (below_set (below_set (below_set (below_set (below_set (HB.out) GB46.out) GB46.out) GB46.out) GB46.out) GB46.out) GB46.out) GB46.out) GB46.out) GB46.out) GB46.out) GB46.out : Below w0.heap.size w0 w51)); have n5_ := Aside0.mk (Kept.of_grown (S := (fun k_ => P0_0_ k_ ∨ P0_2_ k_)) hg (by repeat (first | (with_reducible first | exact HK.out | apply Kept.alloc | apply Kept.drewN | apply Kept.drew | refine Kept.setCell ?_ (.inr GW193.out) _ | refine Kept.setCell ?_ (.inr GW194.out) _) | exact HK.out)) (fun k_ e_ => (HO_194002.out.1 k_ e_))); clear HO_194000; clear HO_194002; clear BK193; clear BK194; clear HB; clear HK; have HO_194000 := n0_; have HO_194002 := n1_; have BK193 := n2_; have BK194 := n3_; have HB := n4_; have HK := n5_; clear n0_ n1_ n2_ n3_ n4_ n5_; clear hg hw hp_)); try go_wp2_with (first | ((with_reducible refine gate_store (t := 47) (p := 74) rfl ?_); (try (rw [drewN_self wr]; generalize hq_ : World.drewN wr _ = wr; have n0_ := Aside0.mk (Kd.R_at hq_ HO_194000.out); have n1_ := Aside0.mk (Kd.R_at hq_ HO_194002.out); have n2_ := Aside0.mk (blk_at hq_ BK193.out); have n3_ := Aside0.mk (blk_at hq_ BK194.out); have n4_ := Aside0.mk (kept_at hq_ HK.out); have n5_ := Aside0.mk (below_at hq_ HB.out); clear hq_ HO_194000 HO_194002 BK193 BK194 HK HB; have HO_194000 := n0_; have HO_194002 := n1_; have BK193 := n2_; have BK194 := n3_; have HK := n4_; have HB := n5_; clear n0_ n1_ n2_ n3_ n4_ n5_; (try (have HX50 := Aside0.mk (show Kd.R k47 47 wr w0.heap.size (fun k_ => ((P0_0_ k_ ∨ P0_2_ k_) ∨ w.heap.size ≤ k_)) (.slice (some ⟨go46, 0, none⟩) x194002_3.length co5) x194002_3 from (by (with_reducible repeat (first | apply Kd.R_alloc | apply Kd.R_drewN | apply Kd.R_drew)); exact HO_194002.out)))); (try (obtain ⟨ce50, hcl50, hM50, hcc50, hfr50⟩ := Kd.R_elem HX50.out z47 (x56_3 : Int) (of_decide_eq_true (by first | (with_reducible assumption) | assumption)) (by have h_ : (x56_3 : Int) < ((x194002_3.length : Int) : Int) := of_decide_eq_true (by first | (with_reducible assumption) | assumption); first | exact h_ | (have e_ := (Kd.R_reads' HO_194002.out).1; omega) | simpa using h_))); (try (obtain rfl := k47_openM hM50)); (try (have HP50 := Kd.R_seg HX50.out (x56_3 : Int) (of_decide_eq_true (by first | (with_reducible assumption) | assumption)) (by have h_ : (x56_3 : Int) < ((x194002_3.length : Int) : Int) := of_decide_eq_true (by first | (with_reducible assumption) | assumption); first | exact h_ | (have e_ := (Kd.R_reads' HO_194002.out).1; omega) | simpa using h_) (seg := [.int .i64 (-1), .int .i64 0, .int .i64 0, .int .i64 0, .int .i64 0, .int .i64 0, .int .i64 0, .int .i64 0, .int .i64 0, .int .i64 0, .int .i64 0]) (j := 0) hcl50 hcc50 (show 11 ≤ 11 from by decide) (x' := (⟨(-1), (⟨0, (⟨0, 0, 0, 0, 0, 0, 0, 0, 0⟩ : S43)⟩ : S45)⟩ : S47)) (k47_mkM _ _ _ (⟨(-1), (⟨0, (⟨0, 0, 0, 0, 0, 0, 0, 0, 0⟩ : S43)⟩ : S45)⟩ : S47) ) (fun _ hk => hk))); (try (have hx50_0 := hcc50 0 _ rfl)); (try (try simp only [show (k47).sz = 11 from rfl, Nat.mul_one, Nat.add_zero] at hx50_0)); (try (have hf50_0 := hfr50 0)); (try (try simp only [show (k47).sz = 11 from rfl, Nat.mul_one, Nat.add_zero] at hf50_0)); (try (have hx50_1 := hcc50 1 _ rfl)); (try (try simp only [show (k47).sz = 11 from rfl, Nat.mul_one, Nat.add_zero] at hx50_1)); (try (have hf50_1 := hfr50 1)); (try (try simp only [show (k47).sz = 11 from rfl, Nat.mul_one, Nat.add_zero] at hf50_1)); (try (have hx50_2 := hcc50 2 _ rfl)); (try (try simp only [show (k47).sz = 11 from rfl, Nat.mul_one, Nat.add_zero] at hx50_2)); (try (have hf50_2 := hfr50 2)); (try (try simp only [show (k47).sz = 11 from rfl, Nat.mul_one, Nat.add_zero] at hf50_2)); (try (have hx50_3 := hcc50 3 _ rfl)); (try (try simp only [show (k47).sz = 11 from rfl, Nat.mul_one, Nat.add_zero] at hx50_3)); (try (have hf50_3 := hfr50 3)); (try (try simp only [show (k47).sz = 11 from rfl, Nat.mul_one, Nat.add_zero] at hf50_3)); (try (have hx50_4 := hcc50 4 _ rfl)); (try (try simp only [show (k47).sz = 11 from rfl, Nat.mul_one, Nat.add_zero] at hx50_4)); (try (have hf50_4 := hfr50 4)); (try (try simp only [show (k47).sz = 11 from rfl, Nat.mul_one, Nat.add_zero] at hf50_4)); (try (have hx50_5 := hcc50 5 _ rfl)); (try (try simp only [show (k47).sz = 11 from rfl, Nat.mul_one, Nat.add_zero] at hx50_5)); (try (have hf50_5 := hfr50 5)); (try (try simp only [show (k47).sz = 11 from rfl, Nat.mul_one, Nat.add_zero] at hf50_5)); (try (have hx50_6 := hcc50 6 _ rfl)); (try (try simp only [show (k47).sz = 11 from rfl, Nat.mul_one, Nat.add_zero] at hx50_6)); (try (have hf50_6 := hfr50 6)); (try (try simp only [show (k47).sz = 11 from rfl, Nat.mul_one, Nat.add_zero] at hf50_6)); (try (have hx50_7 := hcc50 7 _ rfl)); (try (try simp only [show (k47).sz = 11 from rfl, Nat.mul_one, Nat.add_zero] at hx50_7)); (try (have hf50_7 := hfr50 7)); (try (try simp only [show (k47).sz = 11 from rfl, Nat.mul_one, Nat.add_zero] at hf50_7)); (try (have hx50_8 := hcc50 8 _ rfl)); (try (try simp only [show (k47).sz = 11 from rfl, Nat.mul_one, Nat.add_zero] at hx50_8)); (try (have hf50_8 := hfr50 8)); (try (try simp only [show (k47).sz = 11 from rfl, Nat.mul_one, Nat.add_zero] at hf50_8)); (try (have hx50_9 := hcc50 9 _ rfl)); (try (try simp only [show (k47).sz = 11 from rfl, Nat.mul_one, Nat.add_zero] at hx50_9)); (try (have hf50_9 := hfr50 9)); (try (try simp only [show (k47).sz = 11 from rfl, Nat.mul_one, Nat.add_zero] at hf50_9)); (try (have hx50_10 := hcc50 10 _ rfl)); (try (try simp only [show (k47).sz = 11 from rfl, Nat.mul_one, Nat.add_zero] at hx50_10)); (try (have hf50_10 := hfr50 10)); (try (try simp only [show (k47).sz = 11 from rfl, Nat.mul_one, Nat.add_zero] at hf50_10)); (try (clear hcl50 hcc50 hfr50 hM50)))); refine store_event (t := 47) (p := 74) (v := ?vo_w51) (w1 := (((((((((((wr.setCell ⟨go46, (x56_3 : Int).toNat * 11, none⟩ (.int .i64 (-1))).setCell ⟨go46, (x56_3 : Int).toNat * 11 + 1, none⟩ (.int .i64 0)).setCell ⟨go46, (x56_3 : Int).toNat * 11 + 2, none⟩ (.int .i64 0)).setCell ⟨go46, (x56_3 : Int).toNat * 11 + 3, none⟩ (.int .i64 0)).setCell ⟨go46, (x56_3 : Int).toNat * 11 + 4, none⟩ (.int .i64 0)).setCell ⟨go46, (x56_3 : Int).toNat * 11 + 5, none⟩ (.int .i64 0)).setCell ⟨go46, (x56_3 : Int).toNat * 11 + 6, none⟩ (.int .i64 0)).setCell ⟨go46, (x56_3 : Int).toNat * 11 + 7, none⟩ (.int .i64 0)).setCell ⟨go46, (x56_3 : Int).toNat * 11 + 8, none⟩ (.int .i64 0)).setCell ⟨go46, (x56_3 : Int).toNat * 11 + 9, none⟩ (.int .i64 0)).setCell ⟨go46, (x56_3 : Int).toNat * 11 + 10, none⟩ (.int .i64 0))) ?hg ?ho ?hn ?hr ?_; (case ho => rfl); (case hg => rfl); (case hn => rfl); (case hr => first | (go_simp; done) | (go_simp; rfl)); intro w51 hw; have hg : wr.grownBy w51 (some go46) := (by rw [hw]; exact HP50.2); have hp_ : Kd.R k47 47 w51 w0.heap.size (fun k_ => ((P0_0_ k_ ∨ P0_2_ k_) ∨ w.heap.size ≤ k_)) (.slice (some ⟨go46, 0, none⟩) x194002_3.length co5) y200 := (by rw [hw, Ny200.out]; exact HP50.1); clear HP50; have n0_ := Aside0.mk (Kd.R_over' (v := (.slice (some ⟨go46, 0, none⟩) x194002_3.length co5)) (by (with_reducible repeat (first | apply Kd.R_alloc | apply Kd.R_drewN | apply Kd.R_drew)); exact HO_194000.out) (Kd.R_typed HO_194002.out) (by decide) hg); have n1_ := Aside0.mk (hp_); have n2_ := Aside0.mk (blk_grown (g := gb193) (o := .cells #[.slice Ao4 x194000_2.length co4, .int .i64 a0_1, .slice (some ⟨go46, 0, none⟩) x194002_3.length co5] 26 (0, 0)) (by (with_reducible repeat (first | refine blk_drewN ?_ _ | refine blk_drew ?_ | refine blk_alloc ?_ _)); exact BK193.out) hg (Kd.R_ne HO_194002.out BK193.out (by decide))); have n3_ := Aside0.mk (blk_grown (g := gb194) (o := .cells #[.slice A1_0 l1_0.length c1_0, .int .i64 a1_1, .slice (some ad199) l1_2.length c1_2] 26 (0, 0)) (by (with_reducible repeat (first | refine blk_drewN ?_ _ | refine blk_drew ?_ | refine blk_alloc ?_ _)); exact BK194.out) hg (Kd.R_ne HO_194002.out BK194.out (by decide))); have n4_ := Aside0.mk ((by rw [hw]; exact below_set (below_set (below_set (below_set (below_set (below_set (below_set (below_set (below_set (below_set (below_set (HB.out) GB46.out) GB46.out) GB46.out) GB46.out) GB46.out) GB46.out) GB46.out) GB46.out) GB46.out) GB46.out) GB46.out : Below w0.heap.size w0 w51)); have n5_ := Aside0.mk (Kept.of_grown (S := (fun k_ => P0_0_ k_ ∨ P0_2_ k_)) hg (by repeat (first | (with_reducible first | exact HK.out | apply Kept.alloc | apply Kept.drewN | apply Kept.drew | refine Kept.setCell ?_ (.inr GW193.out) _ | refine Kept.setCell ?_ (.inr GW194.out) _) | exact HK.out)) (fun k_ e_ => (HO_194002.out.1 k_ e_))); clear HO_194000; clear HO_194002; clear BK193; clear BK194; clear HB; clear HK; have HO_194000 := n0_; have HO_194002 := n1_; have BK193 := n2_; have BK194 := n3_; have HB := n4_; have HK := n5_; clear n0_ n1_ n2_ n3_ n4_ n5_; clear hg hw hp_)))
                            (try simp only [← hl194002_3])
                            go_roundg k3
                            case measure => have := HJ2.out; have := HK2.out; have := HK3.out; omega
                            case rel => exact ⟨(wrap64 (x56_3 + 1)), (y200), (by first | rfl | (simp; done) | (simp [*]; done)), H', ⟨by have := HJ2.out; have := HK2.out; have := HK3.out; omega⟩, ⟨by (try simp only [hl194000_2]); (try simp only [hl194002_3]); (with_reducible repeat (first | apply Kd.R_alloc | apply Kd.R_drewN | apply Kd.R_drew)); exact HO_194000.out⟩, ⟨by (try simp only [hl194000_2]); (try simp only [hl194002_3]); (with_reducible repeat (first | apply Kd.R_alloc | apply Kd.R_drewN | apply Kd.R_drew)); exact HO_194002.out⟩, ⟨by (try simp only [hl194000_2]); (try simp only [hl194002_3]); (with_reducible repeat (first | refine blk_drewN ?_ _ | refine blk_drew ?_ | refine blk_alloc ?_ _)); exact BK193.out⟩, ⟨by (try simp only [hl194000_2]); (try simp only [hl194002_3]); (with_reducible repeat (first | refine blk_drewN ?_ _ | refine blk_drew ?_ | refine blk_alloc ?_ _)); exact BK194.out⟩, ⟨by repeat (first | (with_reducible first | exact HK.out | apply Kept.alloc | apply Kept.drewN | apply Kept.drew | refine Kept.setCell ?_ (.inr GW193.out) _ | refine Kept.setCell ?_ (.inr GW194.out) _) | exact HK.out)⟩, ⟨by repeat (first | (with_reducible first | exact HB.out | apply below_alloc | apply pw_below_drewN | apply below_drew1 | refine below_set ?_ GE193.out | refine below_set ?_ GE194.out) | exact HB.out)⟩⟩
                        · rw [if_neg c41] at H
                          exact absurd H (by simp)
                      · rw [if_neg c40] at H
                        exact absurd H (by simp)
                    · rw [if_neg c39] at H
                      exact absurd H (by simp)
                  · rw [if_neg c38] at H
                    have c38b0 : decide (x56_3 < (l0_2.length : Int)) = false := decide_eq_false c38
                    clear c38
                    have c38b1 : decide (x56_3 < (x194002_3.length : Int)) = false := by rw [← hl194002_3]; exact c38b0
                    simp only [Option.some.injEq, Prod.mk.injEq] at H
                    obtain ⟨rfl, rfl, rfl⟩ := H
                    go_wp2
                    repeat (go_quiet (fail); try go_wp2)
                    go_ret
                    exact ⟨by first | rfl | (simp [errW_none, errW_some] <;> rfl) | (simp [*, errW_none, errW_some] <;> rfl), (by first | exact (by (with_reducible repeat (first | apply Kd.R_alloc | apply Kd.R_drewN | apply Kd.R_drew)); exact HO_194000.out) | (simp only [hl194000_2, hl194002_3]; exact (by (with_reducible repeat (first | apply Kd.R_alloc | apply Kd.R_drewN | apply Kd.R_drew)); exact HO_194000.out))), (by first | exact (by (with_reducible repeat (first | apply Kd.R_alloc | apply Kd.R_drewN | apply Kd.R_drew)); exact HO_194002.out) | (simp only [hl194000_2, hl194002_3]; exact (by (with_reducible repeat (first | apply Kd.R_alloc | apply Kd.R_drewN | apply Kd.R_drew)); exact HO_194002.out))), by repeat (first | (with_reducible first | exact HB.out | apply below_alloc | apply pw_below_drewN | apply below_drew1 | refine below_set ?_ GE193.out | refine below_set ?_ GE194.out) | exact HB.out), by repeat (first | (with_reducible first | exact HK.out | apply Kept.alloc | apply Kept.drewN | apply Kept.drew | refine Kept.setCell ?_ (.inr GW193.out) _ | refine Kept.setCell ?_ (.inr GW194.out) _) | exact HK.out)⟩

-- NOT PRINTED: function 12 (store_Store_Arena)

-- NOT PRINTED: function 51 (race_Disable)

-- NOT PRINTED: function 52 (atomic_CompareAndSwapInt32)

-- NOT PRINTED: function 53 (race_Enable)

-- NOT PRINTED: function 54 (race_Acquire)

-- NOT PRINTED: function 57 (atomic_AddInt32)

-- NOT PRINTED: function 62 (sync_runtime_canSpin)

-- NOT PRINTED: function 63 (sync_runtime_doSpin)

-- NOT PRINTED: function 64 (sync_throw)

-- NOT PRINTED: function 65 (sync_runtime_nanotime)

-- NOT PRINTED: function 66 (sync_runtime_SemacquireMutex)

-- NOT PRINTED: function 55 (sync_Mutex_lockSlow)

-- NOT PRINTED: function 37 (sync_Mutex_Lock_37)

-- NOT PRINTED: function 24 (sync_Mutex_Lock_24)

-- NOT PRINTED: function 56 (race_ReleaseMerge)

-- NOT PRINTED: function 67 (sync_fatal)

-- NOT PRINTED: function 68 (sync_runtime_Semrelease)

-- NOT PRINTED: function 58 (sync_Mutex_unlockSlow)

-- NOT PRINTED: function 38 (sync_Mutex_Unlock_38)

-- NOT PRINTED: function 25 (sync_Mutex_Unlock_25)

-- NOT PRINTED: function 40 (swiss_Map_Off)

-- NOT PRINTED: function 41 (swiss_Map_Layout)

-- NOT PRINTED: function 27 (store_Store_maps)

-- NOT PRINTED: function 13 (store_Store_Hold)

-- NOT PRINTED: function 3 (larderlaw14_StoreHolds)

end Go.Proofs.Ytccblcnjeekhbaa.PStoreHolds
/- holds answers true for a hold and itself. No program in sight. -/
namespace Go.Proofs.Ytccblcnjeekhbaa
open Go.RowKit Go.Proofs.Ytccblcnjeekhbaa.PStoreHolds Go.Proofs.YtccblcnjeekhbaaW.PrintWords
set_option linter.unusedVariables false

theorem rd47_drop {L ks : List S47} {i : Nat} (hl : L.length = ks.length) (hd : L.drop i = ks.drop i) (hi : i < ks.length) : rd_T47 L (i : Int) = rd_T47 ks (i : Int) := by
  unfold rd_T47
  have h1 : (L.drop i)[0]? = (ks.drop i)[0]? := by rw [hd]
  rw [List.getElem?_drop, List.getElem?_drop, Nat.add_zero] at h1
  simp only [List.getD, Int.toNat_natCast, h1]
theorem rd41_drop {L ks : List S41} {i : Nat} (hl : L.length = ks.length) (hd : L.drop i = ks.drop i) (hi : i < ks.length) : rd_T41 L (i : Int) = rd_T41 ks (i : Int) := by
  unfold rd_T41
  have h1 : (L.drop i)[0]? = (ks.drop i)[0]? := by rw [hd]
  rw [List.getElem?_drop, List.getElem?_drop, Nat.add_zero] at h1
  simp only [List.getD, Int.toNat_natCast, h1]
theorem wrap_succ {i n : Nat} (hi : i < n) (hn : n < 4611686018427387904) : wrap64 ((i : Int) + 1) = ((i + 1 : Nat) : Int) := by
  unfold wrap64
  omega
theorem l1_true (ks : List S47) (nx : Int) (x0 ws : List S41) (hk : ks.length < 4611686018427387904) : ∀ (m i : Nat) (L : List S47), L.length = ks.length → L.drop i = ks.drop i → i + m = ks.length → ∃ k r3, larderlaw14_holds.l1 k (ks.length : Int) (i : Int) x0 nx L ws nx ks = some (true, x0, r3) := by
  intro m
  induction m with
  | zero =>
    intro i L hl hd hi
    refine ⟨1, L, ?_⟩
    unfold larderlaw14_holds.l1
    rw [if_neg (by omega)]
  | succ m ih =>
    intro i L hl hd hi
    have hlt : i < ks.length := by omega
    obtain ⟨k, r3, h⟩ := ih (i + 1) (L.set i (⟨(-1), (⟨0, (⟨0, 0, 0, 0, 0, 0, 0, 0, 0⟩ : S43)⟩ : S45)⟩ : S47)) (by simpa using hl) (by
      rw [List.drop_set_of_lt (by omega)]
      have := congrArg (List.drop 1) hd
      rw [List.drop_drop, List.drop_drop] at this
      exact this) (by omega)
    refine ⟨k + 1, r3, ?_⟩
    unfold larderlaw14_holds.l1
    rw [if_pos (by omega), if_pos (by omega), if_pos (by omega), if_pos (by omega), rd47_drop hl hd hlt, if_neg (by simp), wrap_succ hlt hk, Int.toNat_natCast]
    exact h
theorem l0_true (xs : List S41) (ks : List S47) (nx : Int) (hx : xs.length < 4611686018427387904) (hk : ks.length < 4611686018427387904) : ∀ (m i : Nat) (L : List S41), L.length = xs.length → L.drop i = xs.drop i → i + m = xs.length → ∃ k r2 r3, larderlaw14_holds.l0 k (xs.length : Int) (i : Int) L nx ks xs nx ks = some (true, r2, r3) := by
  intro m
  induction m with
  | zero =>
    intro i L hl hd hi
    obtain ⟨k, r3, h⟩ := l1_true ks nx L xs hk ks.length 0 ks rfl rfl (by omega)
    refine ⟨k + 1, L, r3, ?_⟩
    unfold larderlaw14_holds.l0
    rw [if_neg (by omega)]
    exact h
  | succ m ih =>
    intro i L hl hd hi
    have hlt : i < xs.length := by omega
    obtain ⟨k, r2, r3, h⟩ := ih (i + 1) (L.set i (⟨(⟨#[119, 114, 105, 116, 116, 101, 110, 32, 111, 118, 101, 114]⟩ : ByteArray), 9⟩ : S41)) (by simpa using hl) (by
      rw [List.drop_set_of_lt (by omega)]
      have := congrArg (List.drop 1) hd
      rw [List.drop_drop, List.drop_drop] at this
      exact this) (by omega)
    refine ⟨k + 1, r2, r3, ?_⟩
    unfold larderlaw14_holds.l0
    rw [if_pos (by omega), if_pos (by omega), if_pos (by omega), if_pos (by omega), rd41_drop hl hd hlt, if_neg (by simp), wrap_succ hlt hx, Int.toNat_natCast]
    exact h
/-- a hold is itself -/
theorem holds_true (xs : List S41) (ks : List S47) (nx : Int) (hx : xs.length < 4611686018427387904) (hk : ks.length < 4611686018427387904) : ∃ k r2 r3, larderlaw14_holds.f k xs nx ks xs nx ks = some (true, r2, r3) := by
  obtain ⟨k, r2, r3, h⟩ := l0_true xs ks nx hx hk xs.length 0 xs rfl rfl (by omega)
  refine ⟨k + 1, r2, r3, ?_⟩
  unfold larderlaw14_holds.f
  rw [if_pos rfl, if_pos rfl]
  have hb : ((ks.length : Int) != (ks.length : Int)) = false := by simp
  rw [hb, larderlaw14_holds.j0, if_neg (by decide)]
  exact h
end Go.Proofs.Ytccblcnjeekhbaa
