/- ImageSums' walk: it returns true and writes nothing that was there. -/
import Derived.Test.YthbcnieekpjhcaaDoorSum
set_option linter.unusedVariables false
set_option linter.unusedSimpArgs false
namespace Go.Proofs.YthbcnieekpjhcaaDoor.Wk
open Go Go.RowKit Go.Proofs.YthbcnieekpjhcaaDoorW.PrintWords Go.Proofs.YthbcnieekpjhcaaDoorW.PrintLast Go.Proofs.YthbcnieekpjhcaaDoorW.PrintMore

theorem info5 : (Tryd.prog.info? 5).map (fun i => (i.zero, i.size, i.bytes)) = some (some (.int .u8 0), 1, 1) := by kernel_rfl

theorem ret_bool {b : Bool} (h : b = true) : Ending.returned (.bool b) = .returned (.bool true) := by rw [h]
theorem str_app (xs : List Int) : strOfNums (xs ++ [165, 166]) = strOfNums xs ++ ⟨#[165, 166]⟩ := by
  unfold strOfNums
  rw [List.map_append]
  apply ByteArray.ext
  simp
theorem le_of_app {xs : List Int} {n c : Nat} (hl : xs.length = n) (h : (xs ++ [165, 166]).length ≤ c) : n ≤ c := by simp at h; omega
theorem m_byte {w : World} {b : Nat} {ok : Nat → Prop} (x : Int) : Kd.M (Kd.int .u8) w b ok x [.int .u8 x] := rfl

set_option maxHeartbeats 1000000 in
set_option maxRecDepth 100000 in
theorem sums_walk (A : Option Addr) (n c : Nat) (xs : List Int) (w : World) (h : ReadsInt w .u8 A n xs) (hn : n ≤ 140737488351232) (G0 : w.cell? ⟨0, 0, none⟩ = some (.int .u64 13234230157428861123)) (G1 : w.cell? ⟨0, 1, none⟩ = some (.int .u64 11329751410908088055)) :
    Calls Tryd.prog 3 #[.slice A n c] w fun e w' => e = .returned (.bool true) ∧ Below w.heap.size w w' := by
  have HX := Aside0.mk h
  have hl : xs.length = n := h.1
  have HL := Aside0.mk hl
  clear hl h
  have hglob : ∀ x, Below w.heap.size w x → x.cell? ⟨0, 0, none⟩ = some (.int .u64 13234230157428861123) ∧ x.cell? ⟨0, 1, none⟩ = some (.int .u64 11329751410908088055) := fun x hb =>
    ⟨(hb.cell (p := ⟨0, 0, none⟩) (World.block_lt_of_cell? w _ G0)).trans G0, (hb.cell (p := ⟨0, 1, none⟩) (World.block_lt_of_cell? w _ G1)).trans G1⟩
  have HG := Aside0.mk hglob
  clear hglob G0 G1
  go_enter Tryd.func3, Tryd.ntmps3
  go_wp2_with (first | ((with_reducible refine gate_dst (N := 4) rfl ?_); refine Kd.R_lit (Kd.int .u8) _ 5 ?hg (N := 4) ?hd (xs := ([] : List Int)) (inner := []) (ok := fun _ => True) (okp := fun _ => True) ?hr ?hp (fun _ hk => hk) trivial (Below.refl _ _) (Nat.le_refl _) (by simp) ?_; (case hd => rfl); (case hg => rfl); (case hr => first | (go_simp; done) | (go_simp; rfl)); (case hp => exact Reps.none _ _); intro v1 w1 ho1 hb1 hg1 hn1; clear hg1 hn1; have HO1 := Aside0.mk ho1; have HB1 := Aside0.mk hb1; clear ho1 hb1) | ((with_reducible refine gate_builtin (b := .append) (xs := #[.tmp 4, .tmp 5]) rfl ?_); at_builtin; refine Kd.R_append_row (Value.int .u8) (0 : Int) (h1 := fun _ => rfl) (w0 := w) w.heap.size rfl (.tmp 4) (.tmp 5) 22 5 (.int .u8 0) 1 rfl Tryd.underlying22 info5 rfl (by decide) v1 [] xs A n c (fun _ => True) rfl rfl (fun _ _ => trivial) ?aO ?aR ?aB ?aS ?aL ?_; (case aO => exact HO1.out); (case aR => exact Kd.C_of_reads (d := (0 : Int)) (h1 := fun _ => rfl) (HX.out.below HB1.out)); (case aB => exact HB1.out); (case aS => exact HB1.out.size); (case aL => simp; omega); intro v2 w2 ho2 hb2 hg2 hn2; clear hg2 hn2; simp only [List.nil_append] at ho2; obtain ⟨A2, c2, rfl⟩ := Kd.R_slice ho2; have HO2 := Aside0.mk ho2; have HB2 := Aside0.mk hb2; clear ho2 hb2) | ((with_reducible refine gate_dst (N := 8) rfl ?_); refine Kd.R_lit (Kd.int .u8) _ 5 ?hg (N := 8) ?hd (xs := ([165, 166] : List Int)) (inner := [.int .u8 165, .int .u8 166]) (ok := fun _ => True) (okp := fun _ => True) ?hr ?hp (fun _ hk => hk) trivial (Below.refl _ _) (Nat.le_refl _) (by simp) ?_; (case hd => rfl); (case hg => rfl); (case hr => first | (go_simp; done) | (go_simp; rfl)); (case hp => exact Reps.one (m_byte _) (Reps.one (m_byte _) (Reps.none _ _))); intro v3 w3 ho3 hb3 hg3 hn3; clear hg3 hn3; obtain ⟨A3, c3, rfl⟩ := Kd.R_slice ho3; have HO3 := Aside0.mk ho3; have HB3 := Aside0.mk (below_step HB2.out hb3); have HO2b := Aside0.mk (Kd.R_below HO2.out hb3); clear ho3 hb3) | ((with_reducible refine gate_builtin (b := .append) (xs := #[.tmp 7, .tmp 8]) rfl ?_); at_builtin; refine Kd.R_append_row (Value.int .u8) (0 : Int) (h1 := fun _ => rfl) (w0 := w) w.heap.size rfl (.tmp 7) (.tmp 8) 22 5 (.int .u8 0) 1 rfl Tryd.underlying22 info5 rfl (by decide) _ xs [165, 166] A3 2 c3 (fun _ => True) rfl rfl (fun _ _ => trivial) ?bO ?bR ?bB ?bS ?bL ?_; (case bO => exact HO2b.out); (case bR => exact (Kd.R_reads' HO3.out).2.2); (case bB => exact HB3.out); (case bS => exact HB3.out.size); (case bL => have := HL.out; simp; omega); intro v4 w4 ho4 hb4 hg4 hn4; clear hg4 hn4; obtain ⟨A4, c4, rfl⟩ := Kd.R_slice ho4; have hnc : n ≤ c4 := le_of_app HL.out (Kd.R_reads' ho4).2.1; have HO4 := Aside0.mk ho4; have HB4 := Aside0.mk hb4; clear ho4 hb4))
  have hx4 : ReadsInt w4 .u8 A4 n xs := by
    have h1 := Kd.R_take (m := n) HO4.out (by have := HL.out; simp; omega)
    have h2 := Kd.reads_of_C (d := (0 : Int)) (Kd.R_reads' h1).2.2
    have e1 : (xs ++ [165, 166]).take n = xs := by rw [← HL.out, List.take_left']; rfl
    have e2 : ((xs ++ [165, 166]).take n).length = n := by rw [e1]; exact HL.out
    rw [e1, HL.out] at h2
    exact h2
  have hall : ReadsInt w4 .u8 A4 (xs.length + 2) (xs ++ [165, 166]) := by
    have h2 := Kd.reads_of_C (d := (0 : Int)) (Kd.R_reads' HO4.out).2.2
    have e : (xs ++ [165, 166]).length = xs.length + 2 := by simp
    rw [e] at h2
    exact h2
  have HX4 := Aside0.mk hx4
  have HA4 := Aside0.mk hall
  clear hx4 hall
  refine (own_sum A4 n c4 xs w4 HX4.out hn (HG.out w4 HB4.out).1 (HG.out w4 HB4.out).2).mono ?_
  rintro e w5 ⟨rfl, h5⟩
  have HB5 := Aside0.mk (below_step HB4.out h5)
  have HA5 := Aside0.mk (HA4.out.below h5)
  clear h5
  go_wp2_with fail
  refine (ref_sum A n c xs w5 (HX.out.below HB5.out) hn).mono ?_
  rintro e w6 ⟨rfl, h6⟩
  have HB6 := Aside0.mk (below_step HB5.out h6)
  have HA6 := Aside0.mk (HA5.out.below h6)
  clear h6
  have k1 := string_of_reads (P := Tryd.prog) (c := c4) Tryd.underlying22 Tryd.underlying5 Tryd.underlying9 HA6.out
  have k2 := string_of_reads (P := Tryd.prog) (c := c) Tryd.underlying22 Tryd.underlying5 Tryd.underlying9 (HX.out.below HB6.out)
  have hsz : (strOfNums xs).size ≤ 140737488351232 := by
    have e : (strOfNums xs).size = xs.length := by unfold strOfNums ByteArray.size; simp
    rw [e, HL.out]; exact hn
  have hz : (strOfNums xs).size + 2 ≤ 9223372036854775807 := by omega
  clear hsz
  go_wp2_with fail
  go_ret
  exact ⟨ret_bool (by rw [str_app]; simp), HB6.out⟩
end Go.Proofs.YthbcnieekpjhcaaDoor.Wk
