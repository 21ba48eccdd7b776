/- Text.Pack, walked. -/
import Derived.Test.YthbcnieekpjhcaaTxt
import Derived.Test.YthbcnieekpjhcaaWhole
namespace Go.Proofs.Ythbcnieekpjhcaa.Leaf
open Go.RowKit Go.Proofs.YthbcnieekpjhcaaW.PrintWords Go.Proofs.YthbcnieekpjhcaaW.PrintLast Go.Proofs.YthbcnieekpjhcaaW.PrintMore
set_option linter.unusedVariables false
set_option linter.unusedSimpArgs false

theorem text_width (m : Int) (w : World) : Calls Try.prog 23 #[.agg #[.int .i64 m]] w fun e w' => e = .returned (.int .i64 (widthT m)) ∧ Below w.heap.size w w' :=
  PTypedTexts.typed_Text_Width.calls m _ w (text_width_f m)
theorem text_align (m : Int) (w : World) : Calls Try.prog 52 #[.agg #[.int .i64 m]] w fun e w' => e = .returned (.int .i64 1) ∧ Below w.heap.size w w' :=
  PTypedTexts.typed_Text_Align.calls m _ w rfl
theorem text_unpack (m : Int) (s : ByteArray) (w : World) : Calls Try.prog 24 #[.agg #[.int .i64 m], .string s] w fun e w' => e = .returned (.string (unpackT m s)) ∧ Below w.heap.size w w' :=
  PTypedTexts.typed_Text_Unpack.calls m s _ w (text_unpack_f m s)
theorem rtext_pack (m : Int) (s : ByteArray) (w : World) : Calls Try.prog 50 #[.int .i64 m, .string s] w fun e w' => e = .returned (.tuple #[.string (packT m s), .bool (textIn m s)]) ∧ Below w.heap.size w w' :=
  PTypedTexts.larderref21_PackText.calls 200 m s _ _ w (ref_text_f m s)
theorem rtext_width (m : Int) (w : World) : Calls Try.prog 51 #[.int .i64 m] w fun e w' => e = .returned (.int .i64 (widthT m)) ∧ Below w.heap.size w w' :=
  (PTypedTexts.larderref21_TextWidth.calls m _ w (ref_width_f m)).mono fun _ _ h => ⟨h.1, drawn_below h.2⟩
theorem rtext_unpack (m : Int) (s : ByteArray) (w : World) : Calls Try.prog 53 #[.int .i64 m, .string s] w fun e w' => e = .returned (.string (unpackT m s)) ∧ Below w.heap.size w w' :=
  (PTypedTexts.larderref21_UnpackText.calls 2 m s _ w (ref_untext_f m s)).mono fun _ _ h => ⟨h.1, drawn_below h.2⟩

theorem size5 : (Try.prog.info? 5).map (·.size) = some 1 := by kernel_rfl
abbrev txtObj (m : Int) : Obj := .cells #[.int .i64 m] 50
theorem txt_size (m : Int) (w : World) : w.heap.size + 1 ≤ (w.alloc (txtObj m)).heap.size := by simp
theorem txt_cell {m : Int} {w x : World} (h : Below (w.heap.size + 1) (w.alloc (txtObj m)) x) : x.cell? ⟨w.heap.size, 0, none⟩ = some (.int .i64 m) := by
  have e : x.cell? ⟨w.heap.size, 0, none⟩ = (w.alloc (txtObj m)).cell? ⟨w.heap.size, 0, none⟩ := h.cell (p := ⟨w.heap.size, 0, none⟩) (by simp)
  rw [e, txtObj]; go_simp

theorem packed_list (m : Int) (s : ByteArray) (h0 : 0 ≤ m) (h1 : m ≤ 127) (hs : (s.size : Int) ≤ m) :
    strOfNums ((b2l s ++ (List.replicate (m + 1).toNat (0 : Int)).drop s.size).set m.toNat ((s.size : Int) % 256)) = textOf m s := by
  unfold textOf
  congr 1
  have e1 : ((s.size : Int)) % 256 = s.size := by omega
  have e2 : (m + 1).toNat - s.size = (m.toNat - s.size) + 1 := by omega
  rw [e1, List.drop_replicate, e2, List.set_append_right _ _ (by rw [b2l_length]; omega), b2l_length, List.replicate_succ', List.set_append_right _ _ (by simp)]
  simp

theorem after_copy {base g cap k : Nat} {w0 w3 : World} {L : List Int} {m v : Int} (p0 : (0 ≤ m) = True) (q0 : (m < (k : Int)) = True) (hg : base ≤ g)
    (hR : Kd.R (Kd.int .u8) 5 w3 base (fun _ => True) (.slice (some ⟨g, 0, none⟩) k cap) L) (hB : Below base w0 w3) :
    w3.cell? ⟨g, m.toNat, none⟩ = some (.int .u8 (rdOf 0 L m)) ∧ w3.frozen? ⟨g, m.toNat, none⟩ = false ∧
      (convert 89 9 (.slice (some ⟨g, 0, none⟩) k cap)).run Try.prog (w3.setCell ⟨g, m.toNat, none⟩ (.int .u8 v)) = .ok (.string (strOfNums (L.set m.toNat v))) (w3.setCell ⟨g, m.toNat, none⟩ (.int .u8 v)) ∧ Hid (Below base w0 (w3.setCell ⟨g, m.toNat, none⟩ (.int .u8 v))) := by
  obtain ⟨hx, hf⟩ := Kd.R_celln 0 hR m (of_eq_true p0) (of_eq_true q0)
  exact ⟨hx, hf, own_string (P := Try.prog) Try.underlying89 Try.underlying5 Try.underlying9 (Kd.own_of_R (Kd.R_putg hR m v).1), Lib.hid (hB.setCell hg _)⟩

set_option maxRecDepth 100000 in
set_option maxHeartbeats 8000000 in
theorem text_pack (m : Int) (s : ByteArray) (w : World) : Calls Try.prog 22 #[.agg #[.int .i64 m], .string s] w fun e w' => e = .returned (.tuple #[.string (packT m s), .bool (textIn m s)]) ∧ Below w.heap.size w w' := by
  have hW := txt_size m w
  have h0 : Below (w.heap.size + 1) (w.alloc (txtObj m)) (w.alloc (txtObj m)) := Below.refl _ _
  have hfin : ∀ x, Below (w.heap.size + 1) (w.alloc (txtObj m)) x → Below w.heap.size w x := fun x h => below_box0.trans (h.mono (by omega))
  have Hfin := Lib.hid hfin
  clear hfin
  by_cases hm : 0 ≤ m ∧ m ≤ 127
  · have hf := PTypedTexts.typed_Text_fine.calls m true
    have hff : PTypedTexts.typed_Text_fine.f m = some true := by rw [text_fine_f, decide_eq_true hm]
    by_cases hs : (s.size : Int) ≤ m
    · have hin : textIn m s = true := by unfold textIn; simp; omega
      have hgt : decide (m < (s.size : Int)) = false := decide_eq_false (by omega)
      have hpk := packed_list m s hm.1 hm.2 hs
      obtain ⟨k, hk⟩ : ∃ k : Nat, (m + 1).toNat = k := ⟨_, rfl⟩
      rw [hk] at hpk
      have Hpk := Lib.hid hpk
      have Hk := Lib.hid hk
      have hT : packT m s = textOf m s := by unfold packT; rw [if_pos hin]
      rw [hT, hin]
      clear hT hin hpk
      obtain ⟨hm0, hm1⟩ := hm
      have Hm0 := Lib.hid hm0
      have Hm1 := Lib.hid hm1
      have Hs := Lib.hid hs
      have p0 : (0 ≤ m) = True := eq_true hm0
      have q0 : (m < (k : Int)) = True := eq_true (by omega)
      have hwr : IntKind.i64.wrap (m + 1) = m + 1 := by rw [IntKind.wrap_i64]; omega
      clear hm0 hm1 hs hk
      go_enter Try.func22, Try.ntmps22
      go_wp2_with fail
      refine (call_in (hf _ hff) hW h0).mono ?_
      rintro e w1 ⟨rfl, h1⟩
      clear h0 hf
      have c0 := txt_cell h1
      go_wp2_with (first | ((with_reducible refine gate_dst (N := 20) rfl ?_); refine Kd.R_make (Kd.int .u8) _ 5 rfl (N := 20) rfl 89 _ _ rfl (m + 1) rfl rfl Try.underlying89 (.int .u8 0) 1 PTypedTexts.info5 rfl (by decide) (by omega) 0 (ok := fun _ => True) (okp := fun _ => True) rfl (fun _ hk => hk) trivial (by have := Hm0.out; omega) (by have := Hm1.out; omega) h1 (Nat.le_trans hW h1.size) ?_; intro v2 w2 hR hB hg_ hnew_; clear hg_ hnew_; obtain ⟨g, cap, rfl, hgb, hgl, cells, hcells⟩ := Kd.R_form hR (by rw [List.length_replicate]; have := Hm0.out; omega); clear hgl hcells cells; simp only [List.length_replicate, Hk.out] at hR ⊢; have Hgb := Lib.hid hgb; clear hgb) | ((with_reducible refine gate_dst (N := 23) rfl ?_); refine copy_text _ rfl (.tmp 21) (.tmp 22) 89 9 rfl Try.underlying89 size5 _ _ s _ (by rfl) (by rfl) (by have := Hm0.out; have := Hs.out; have := Hk.out; rw [List.length_replicate]; omega) hR hB (Nat.le_trans hW hB.size) ?_; clear hR hB c0 h1; intro w3 hR hB; have c0 := txt_cell hB; obtain ⟨hx, hf, HP, HB3⟩ := after_copy (v := (s.size : Int) % 256) p0 q0 Hgb.out hR hB; rw [Hpk.out] at HP; clear hR hB))
      go_ret2
      exact ⟨rfl, Hfin.out _ HB3.out⟩
    · have hin : textIn m s = false := by unfold textIn; simp; omega
      have hT : packT m s = ⟨#[]⟩ := by unfold packT; rw [hin]; rfl
      have hgt : decide (m < (s.size : Int)) = true := decide_eq_true (by omega)
      rw [hT, hin]
      clear hT hin hm hs
      go_enter Try.func22, Try.ntmps22
      go_wp2_with fail
      refine (call_in (hf _ hff) hW h0).mono ?_
      rintro e w1 ⟨rfl, h1⟩
      clear h0 hf
      have c0 := txt_cell h1
      go_wp2_with fail
      go_ret2
      exact ⟨rfl, Hfin.out _ h1⟩
  · have hf := PTypedTexts.typed_Text_fine.calls m false
    have hff : PTypedTexts.typed_Text_fine.f m = some false := by rw [text_fine_f, decide_eq_false hm]
    have hin : textIn m s = false := by unfold textIn; simp; omega
    have hT : packT m s = ⟨#[]⟩ := by unfold packT; rw [hin]; rfl
    rw [hT, hin]
    clear hT hin hm
    go_enter Try.func22, Try.ntmps22
    go_wp2_with fail
    refine (call_in (hf _ hff) hW h0).mono ?_
    rintro e w1 ⟨rfl, h1⟩
    clear h0 hf
    go_wp2_with fail
    go_ret2
    exact ⟨rfl, Hfin.out _ h1⟩
end Go.Proofs.Ythbcnieekpjhcaa.Leaf
