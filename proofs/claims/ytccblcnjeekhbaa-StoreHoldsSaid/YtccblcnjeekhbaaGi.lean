/- What the law's walk needs of rows: a row's beginning, rows beside each other, the rows that came in. No walk. -/
import Derived.Test.YtccblcnjeekhbaaGf
import Derived.Test.YtccblcnjeekhbaaGh
import Derived.Test.YtccblcnjeekhbaaGe
import Derived.Test.YtccblcnjeekhbaaGg
import Derived.Test.YtccblcnjeekhbaaGa
import Derived.Test.YtccblcnjeekhbaaGb
import Derived.LaidEqlPtr
import Derived.Deep.Slices
import Derived.ProofKit
import Derived.OpenShut
import Derived.SizedLaws
namespace Go.Proofs.Ytccblcnjeekhbaa
open Go.RowKit Go.Maps Go.Proofs.Ytccblcnjeekhbaa.PStoreHolds Go.Proofs.YtccblcnjeekhbaaW.PrintWords Go.Proofs.YtccblcnjeekhbaaW.PrintLast Go.Proofs.YtccblcnjeekhbaaW.PrintMore
set_option linter.unusedVariables false

theorem hGo_rising {nx : Int} {cls : List Int} : ∀ (ks : List S47) (last : Int) (seen : List Int), hGo nx cls last seen ks = 0 → (∀ x ∈ ks, last < x.f0) ∧ Rising ks
  | [], _, _, _ => ⟨fun _ h => (by cases h), List.Pairwise.nil⟩
  | x :: r, last, seen, h => by
    have h' : (if hBad nx cls last seen x then 144 else hGo nx cls x.f0 (seen ++ [x.f1.f0]) r) = 0 := h
    by_cases hb : hBad nx cls last seen x
    · rw [if_pos hb] at h'; cases h'
    · rw [if_neg hb] at h'
      obtain ⟨h1, h2⟩ := hGo_rising r _ _ h'
      have hlt : last < x.f0 := by unfold hBad at hb; omega
      refine ⟨fun y hy => ?_, List.Pairwise.cons h1 h2⟩
      rcases List.mem_cons.1 hy with rfl | hy
      · exact hlt
      · have := h1 y hy; omega
theorem hCode_rising {xs : List S41} {nx : Int} {ks : List S47} {cls : List Int} (h : hCode xs nx ks cls = 0) : Rising ks := by
  unfold hCode at h
  by_cases h1 : oCode xs ≠ 0
  · rw [if_pos h1] at h; exact absurd h h1
  · rw [if_neg h1] at h
    by_cases h2 : nx < 1 ∨ 4611686018427387904 < nx
    · rw [if_pos h2] at h; cases h
    · rw [if_neg h2] at h
      exact (hGo_rising ks 0 [] h).2
theorem heap41 : Kd.Heap k41 := Kd.heap_iso _ (Kd.heap_pair Kd.heap_string (Kd.heap_int .u64))
theorem heap43 : Kd.Heap k43 := Kd.heap_iso _ (Kd.heap_pair (Kd.heap_int _) (Kd.heap_pair (Kd.heap_int _) (Kd.heap_pair (Kd.heap_int _) (Kd.heap_pair (Kd.heap_int _) (Kd.heap_pair (Kd.heap_int _) (Kd.heap_pair (Kd.heap_int _) (Kd.heap_pair (Kd.heap_int _) (Kd.heap_pair (Kd.heap_int _) (Kd.heap_int _)))))))))
theorem heap47 : Kd.Heap k47 := Kd.heap_iso _ (Kd.heap_pair (Kd.heap_int _) (Kd.heap_iso _ (Kd.heap_pair (Kd.heap_int _) heap43)))
section
variable {α : Type} {d : Kd α} {e n c base : Nat} {ok : Nat → Prop} {w w1 : World} {A : Option Addr} {xs ys : List α}
theorem reps_take {R : α → List Value → Prop} {size : Nat} {cs : List Value} (h : Reps R size (xs ++ ys) cs) : Reps R size xs (cs.take (xs.length * size)) := by
  obtain ⟨h1, h2⟩ := h
  rw [List.length_append, Nat.add_mul] at h1
  refine ⟨by rw [List.length_take, h1]; omega, fun j p hj => ?_⟩
  have hlt : j < xs.length := (List.getElem?_eq_some_iff.1 hj).1
  have h3 := h2 j p (by rw [List.getElem?_append_left hlt]; exact hj)
  have e1 : ((cs.take (xs.length * size)).drop (j * size)).take size = (cs.drop (j * size)).take size := by
    rw [List.drop_take, List.take_take]
    congr 1
    have : (j + 1) * size ≤ xs.length * size := Nat.mul_le_mul_right _ hlt
    rw [Nat.add_mul] at this
    omega
  rw [e1]
  exact h3
/-- the beginning of an own row -/
theorem R_take (h : Kd.R d e w base ok (.slice A n c) (xs ++ ys)) (hy : 0 < ys.length) : Kd.R d e w base ok (.slice A xs.length c) xs := by
  obtain ⟨h0, inner, ho, hr⟩ := h
  obtain ⟨hlen, ho⟩ := ho
  have hi := hr.1
  rcases ho with ⟨hv, hn⟩ | ⟨g, cap, cur, hv, hb, hh, hc, hm, hs, ht⟩
  · rw [List.length_append] at hn; omega
  · simp only [Value.slice.injEq] at hv
    obtain ⟨rfl, hn, rfl⟩ := hv
    have hle : xs.length ≤ n := by rw [hn, List.length_append]; omega
    have htk : (inner.take (xs.length * d.sz)).length = xs.length * d.sz := (reps_take hr).1
    refine ⟨h0, inner.take (xs.length * d.sz), ⟨htk, .inr ⟨g, c, cur, rfl, hb, hh, ?_, hm, hs, ?_⟩⟩, reps_take hr⟩
    · rw [← hn] at hc; omega
    · rw [← ht, List.take_take]
      congr 1
      have : xs.length * d.sz ≤ (xs ++ ys).length * d.sz := Nat.mul_le_mul_right _ (by rw [List.length_append]; omega)
      omega
end
/-- a row stays where one of another type has been appended to -/
theorem R41_keep {w w1 : World} {base base' : Nat} {ok ok' : Nat → Prop} {v u : Value} {xs : List S41} {ys : List S47} (h : Kd.R k41 41 w base ok v xs) (hg : w.grownBy w1 u.ownBlock) (hu : Kd.R k47 47 w base' ok' u ys) : Kd.R k41 41 w1 base (fun _ => True) v xs := by
  refine Kd.R_mono (Kd.R_grown (Kd.R_bound h) hg (fun k hk e1 => ?_)) (fun _ _ => trivial)
  obtain ⟨_, _, _, q, hq, cs, hc⟩ := hk
  exact Kd.R_ne hu hc (by rcases List.mem_cons.1 hq with rfl | hq; decide; exact absurd hq (by simp [k41, Kd.iso, Kd.pair, Kd.string, Kd.int, Kd.scalar])) e1
theorem R_shape {α : Type} {d : Kd α} {e base : Nat} {ok : Nat → Prop} {w : World} {v : Value} {xs : List α} {a b : α} (h : Kd.R d e w base ok v (xs ++ [a, b])) : ∃ g c, v = .slice (some ⟨g, 0, none⟩) (xs.length + 2) c ∧ xs.length + 2 ≤ c ∧ base ≤ g := by
  obtain ⟨inner, ho⟩ := Kd.R_own h
  rw [show (xs ++ [a, b]).length = xs.length + 2 by simp] at ho
  rcases ho.2 with ⟨_, hn⟩ | ⟨g, cap, cur, hv, hb, _, hc, _⟩
  · omega
  · exact ⟨g, cap, hv, hc, hb⟩
def bh : S41 := ⟨⟨#[98, 101, 104, 105, 110, 100]⟩, 0⟩
def m5 (n : Int) : S47 := ⟨n, z45⟩
theorem rd41_at (xs : List S41) (a b : S41) : rd_T41 (xs ++ [a, b]) (xs.length : Int) = a ∧ rd_T41 (xs ++ [a, b]) ((xs.length : Int) + 1) = b := by
  constructor
  · simp [rd_T41]
  · have : ((xs.length : Int) + 1).toNat = xs.length + 1 := by omega
    simp [rd_T41, this]
theorem rd47_at (xs : List S47) (a b : S47) : rd_T47 (xs ++ [a, b]) (xs.length : Int) = a ∧ rd_T47 (xs ++ [a, b]) ((xs.length : Int) + 1) = b := by
  constructor
  · simp [rd_T47]
  · have : ((xs.length : Int) + 1).toNat = xs.length + 1 := by omega
    simp [rd_T47, this]
/-- two new overrides, laid as a row -/
theorem two41 (w : World) (a b : S41) : Kd.C k41 (w.alloc (.cells #[.string a.f0, .int .u64 a.f1, .string b.f0, .int .u64 b.f1] 41)) (some ⟨w.heap.size, 0, none⟩) 2 [a, b] := by
  have hb := alloc_new w (.cells #[.string a.f0, .int .u64 a.f1, .string b.f0, .int .u64 b.f1] 41)
  refine ⟨rfl, by omega, fun _ => ⟨_, rfl, fun j p hj => ?_⟩⟩
  match j, hj with
  | 0, hj =>
    cases hj
    refine ⟨[.string a.f0, .int .u64 a.f1], rfl, k41_mk _ _, fun i u hu => ?_⟩
    match i, hu with
    | 0, hu => cases hu; exact cell_of hb rfl
    | 1, hu => cases hu; exact cell_of (i := 1) hb rfl
  | 1, hj =>
    cases hj
    refine ⟨[.string b.f0, .int .u64 b.f1], rfl, k41_mk _ _, fun i u hu => ?_⟩
    match i, hu with
    | 0, hu => cases hu; exact cell_of (i := 2) hb rfl
    | 1, hu => cases hu; exact cell_of (i := 3) hb rfl
theorem two47 (w : World) (a b : Int) : Kd.C k47 (w.alloc (.cells #[.int .i64 a, .int .i64 0, .int .i64 0, .int .i64 0, .int .i64 0, .int .i64 0, .int .i64 0, .int .i64 0, .int .i64 0, .int .i64 0, .int .i64 0, .int .i64 b, .int .i64 0, .int .i64 0, .int .i64 0, .int .i64 0, .int .i64 0, .int .i64 0, .int .i64 0, .int .i64 0, .int .i64 0, .int .i64 0] 47)) (some ⟨w.heap.size, 0, none⟩) 2 [m5 a, m5 b] := by
  have hb := alloc_new w (.cells #[.int .i64 a, .int .i64 0, .int .i64 0, .int .i64 0, .int .i64 0, .int .i64 0, .int .i64 0, .int .i64 0, .int .i64 0, .int .i64 0, .int .i64 0, .int .i64 b, .int .i64 0, .int .i64 0, .int .i64 0, .int .i64 0, .int .i64 0, .int .i64 0, .int .i64 0, .int .i64 0, .int .i64 0, .int .i64 0] 47)
  refine ⟨rfl, by omega, fun _ => ⟨_, rfl, fun j p hj => ?_⟩⟩
  match j, hj with
  | 0, hj =>
    cases hj
    refine ⟨_, rfl, k47_mk _ _, fun i u hu => ?_⟩
    match i, hu with
    | 0, hu => cases hu; exact cell_of (i := 0) hb rfl
    | 1, hu => cases hu; exact cell_of (i := 1) hb rfl
    | 2, hu => cases hu; exact cell_of (i := 2) hb rfl
    | 3, hu => cases hu; exact cell_of (i := 3) hb rfl
    | 4, hu => cases hu; exact cell_of (i := 4) hb rfl
    | 5, hu => cases hu; exact cell_of (i := 5) hb rfl
    | 6, hu => cases hu; exact cell_of (i := 6) hb rfl
    | 7, hu => cases hu; exact cell_of (i := 7) hb rfl
    | 8, hu => cases hu; exact cell_of (i := 8) hb rfl
    | 9, hu => cases hu; exact cell_of (i := 9) hb rfl
    | 10, hu => cases hu; exact cell_of (i := 10) hb rfl
  | 1, hj =>
    cases hj
    refine ⟨_, rfl, k47_mk _ _, fun i u hu => ?_⟩
    match i, hu with
    | 0, hu => cases hu; exact cell_of (i := 11) hb rfl
    | 1, hu => cases hu; exact cell_of (i := 12) hb rfl
    | 2, hu => cases hu; exact cell_of (i := 13) hb rfl
    | 3, hu => cases hu; exact cell_of (i := 14) hb rfl
    | 4, hu => cases hu; exact cell_of (i := 15) hb rfl
    | 5, hu => cases hu; exact cell_of (i := 16) hb rfl
    | 6, hu => cases hu; exact cell_of (i := 17) hb rfl
    | 7, hu => cases hu; exact cell_of (i := 18) hb rfl
    | 8, hu => cases hu; exact cell_of (i := 19) hb rfl
    | 9, hu => cases hu; exact cell_of (i := 20) hb rfl
    | 10, hu => cases hu; exact cell_of (i := 21) hb rfl
/-- what is written over is older than the store -/
theorem StM.kept {mu : Int} {n ps mb : Nat} {pa po : Addr} {nx : Int} {v : Value} {xs : List S41} {ks : List S47} {w w' : World} {S : Nat → Prop} (h : StM mu n ps mb pa po nx v xs ks w) (K : Kept w w' S) (hS : ∀ k, S k → k < n) : StM mu n ps mb pa po nx v xs ks w' := by
  have hk : ∀ {k : Nat} {o : Obj}, w.heap[k]? = some o → n ≤ k → w'.heap[k]? = some o := fun {k o} ho hn => (K.2 k (Array.getElem?_eq_some_iff.1 ho).1 (fun hs => by have := hS k hs; omega)).trans ho
  refine ⟨hk h.hp h.hps, ?_, ?_, h.hps, h.hmb⟩
  · exact Kd.R_mono (Kd.R_step (Kd.R_bound h.row) (fun k hk hlt => K.2 k hlt (fun hs => by have := hS k hs; have := hk.2.1; omega))) (fun _ _ => trivial)
  · obtain ⟨es, clock, hb, r⟩ := h.own
    exact ⟨es, clock, hk hb h.hmb, r⟩
theorem arena_call2 {ps : Nat} {pa : Addr} {a b c d e f : Value} {w : World} (h : w.heap[ps]? = some (.cells #[a, b, c, d, .pointer (some pa), e, f] 87 (0, 0))) :
    Calls Try.prog 12 #[.pointer (some ⟨ps, 0, none⟩)] w fun e w' => e = .returned (.pointer (some pa)) ∧ w' = w := by
  have hc := cell_of (i := 4) (v := .pointer (some pa)) h rfl
  go_enter Try.func12, Try.ntmps12
  go_wp2_with fail
  go_ret
  exact ⟨rfl, rfl⟩
theorem add0 (g i : Nat) : (⟨g, 0, none⟩ : Addr).add i = ⟨g, i, none⟩ := by
  unfold Addr.add
  split
  · rename_i h; rw [h]
  · simp
theorem R41_at {w : World} {base g c : Nat} {ok : Nat → Prop} {xs : List S41} (h : Kd.R k41 41 w base ok (.slice (some ⟨g, 0, none⟩) (xs.length + 2) c) (xs ++ [bh, bh])) :
    w.cell? ⟨g, xs.length * 2, none⟩ = some (.string bh.f0) ∧ w.cell? ⟨g, (xs.length + 1) * 2, none⟩ = some (.string bh.f0) := by
  have hC := (Kd.R_reads' h).2.2
  have hl : (xs ++ [bh, bh]).length = xs.length + 2 := by simp
  rw [hl] at hC
  obtain ⟨h1, h2⟩ := rd41_at xs bh bh
  constructor
  · obtain ⟨ad, hA, q, _⟩ := at_T41 hC (xs.length : Int) (by omega) (by omega)
    cases hA
    rw [h1, add0] at q
    simpa [m5] using q
  · obtain ⟨ad, hA, q, _⟩ := at_T41 hC ((xs.length : Int) + 1) (by omega) (by omega)
    cases hA
    rw [h2] at q
    have e1 : ((xs.length : Int) + 1).toNat = xs.length + 1 := by omega
    rw [e1, add0] at q
    simpa [m5] using q
theorem R47_at {w : World} {base g c : Nat} {ok : Nat → Prop} {xs : List S47} {a b : Int} (h : Kd.R k47 47 w base ok (.slice (some ⟨g, 0, none⟩) (xs.length + 2) c) (xs ++ [m5 a, m5 b])) :
    w.cell? ⟨g, xs.length * 11, none⟩ = some (.int .i64 a) ∧ w.cell? ⟨g, (xs.length + 1) * 11, none⟩ = some (.int .i64 b) := by
  have hC := (Kd.R_reads' h).2.2
  have hl : (xs ++ [m5 a, m5 b]).length = xs.length + 2 := by simp
  rw [hl] at hC
  obtain ⟨h1, h2⟩ := rd47_at xs (m5 a) (m5 b)
  constructor
  · obtain ⟨ad, hA, q, _⟩ := at_T47 hC (xs.length : Int) (by omega) (by omega)
    cases hA
    rw [h1, add0] at q
    simpa [m5] using q
  · obtain ⟨ad, hA, q, _⟩ := at_T47 hC ((xs.length : Int) + 1) (by omega) (by omega)
    cases hA
    rw [h2] at q
    have e1 : ((xs.length : Int) + 1).toNat = xs.length + 1 := by omega
    rw [e1, add0] at q
    simpa [m5] using q
end Go.Proofs.Ytccblcnjeekhbaa
/- StoreHolds, walked: it returns true. -/
namespace Go.Proofs.Ytccblcnjeekhbaa
open Go.RowKit Go.Maps Go.Proofs.Ytccblcnjeekhbaa.PStoreHolds Go.Proofs.YtccblcnjeekhbaaW.PrintWords Go.Proofs.YtccblcnjeekhbaaW.PrintLast Go.Proofs.YtccblcnjeekhbaaW.PrintMore
set_option linter.unusedVariables false
set_option linter.unusedSimpArgs false

/-- both arenas, apart; nothing older has turned -/
def Two (w : World) (pa pr : Nat) (cls cls' : List Int) (W : World) : Prop :=
  ∃ F G : Nat → Prop, ArZ W w.heap.size pa cls F ∧ RefZ W w.heap.size pr cls' G ∧ (∀ k, F k → ¬ G k) ∧ (∀ k, F k → w.heap.size < k ∧ k < W.heap.size) ∧ (∀ k, G k → w.heap.size < k ∧ k < W.heap.size) ∧ Below w.heap.size w W
theorem two_start {w w1 w2 : World} {pa pr : Nat} {n1 : Nat} (hn1 : w.heap.size < n1) (h1 : ArZ w1 w.heap.size pa [] (fun k => n1 ≤ k ∧ k < w1.heap.size)) (h2 : RefZ w2 w.heap.size pr [] (fun k => w1.heap.size ≤ k ∧ k < w2.heap.size)) (T1 : Turn (fun _ => False) w w1) (T2 : Turn (fun _ => False) w1 w2) (hle : n1 ≤ w1.heap.size) : Two w pa pr [] [] w2 := by
  refine ⟨_, _, ArZ_kept h1 T2 (fun _ _ h => h), h2, fun k hk hg => ?_, fun k hk => ⟨?_, ?_⟩, fun k hk => ⟨?_, hk.2⟩, (T1.then T2 (fun _ h => h.elim)).below (fun _ h => h.elim) (Nat.le_refl _)⟩
  · exact absurd hk.2 (by have := hg.1; omega)
  · have := hk.1; omega
  · have := hk.2; have := T2.size; omega
  · have := hk.1; omega
theorem two_alloc {w W W' : World} {pa pr : Nat} {cls' cls2 : List Int} {F G : Nat → Prop} (hR : RefZ W w.heap.size pr cls' G) (hd : ∀ k, F k → ¬ G k) (hF : ∀ k, F k → w.heap.size < k ∧ k < W.heap.size) (hG : ∀ k, G k → w.heap.size < k ∧ k < W.heap.size) (B : Below w.heap.size w W) (hlt : w.heap.size < W.heap.size)
    (hA : ArZ W' w.heap.size pa cls2 (fun k => F k ∨ (W.heap.size ≤ k ∧ k < W'.heap.size))) (T : Turn F W W') : Two w pa pr cls2 cls' W' := by
  refine ⟨_, G, hA, RefZ_kept hR T (fun k hg hf => hd k hf hg), fun k hk hg => ?_, fun k hk => ?_, fun k hk => ?_, ?_⟩
  · rcases hk with hk | hk
    · exact hd k hk hg
    · have := (hG k hg).2; omega
  · rcases hk with hk | hk
    · have := hF k hk; have := T.size; omega
    · omega
  · have := hG k hk; have := T.size; omega
  · exact B.trans (T.below (fun k hk => Nat.le_of_lt (hF k hk).1) (Nat.le_of_lt hlt))
theorem two_ralloc {w W W' : World} {pa pr : Nat} {cls cls2 : List Int} {F G : Nat → Prop} (hA : ArZ W w.heap.size pa cls F) (hd : ∀ k, F k → ¬ G k) (hF : ∀ k, F k → w.heap.size < k ∧ k < W.heap.size) (hG : ∀ k, G k → w.heap.size < k ∧ k < W.heap.size) (B : Below w.heap.size w W) (hlt : w.heap.size < W.heap.size)
    (hR : RefZ W' w.heap.size pr cls2 (fun k => G k ∨ (W.heap.size ≤ k ∧ k < W'.heap.size))) (T : Turn G W W') : Two w pa pr cls cls2 W' := by
  refine ⟨F, _, ArZ_kept hA T (fun k hf hg => hd k hf hg), hR, fun k hf hk => ?_, fun k hk => ?_, fun k hk => ?_, ?_⟩
  · rcases hk with hk | hk
    · exact hd k hf hk
    · have := (hF k hf).2; omega
  · have := hF k hk; have := T.size; omega
  · rcases hk with hk | hk
    · have := hG k hk; have := T.size; omega
    · omega
  · exact B.trans (T.below (fun k hk => Nat.le_of_lt (hG k hk).1) (Nat.le_of_lt hlt))
set_option maxRecDepth 100000 in
theorem eq_ptr (p : Addr) (w : World) : (binOp .eql 27 (.pointer (some p)) (.pointer (some p))).run Try.prog w = .ok (.bool true) w := by
  obtain ⟨j, hj⟩ := Option.isSome_iff_exists.1 (show (Try.prog.info? 62).isSome = true by kernel_rfl)
  exact run_eql_ptr_same w p Try.underlying27 hj
theorem int_at {w : World} {A : Option Addr} {zs : List Int} (h : Kd.C (Kd.int .i64) w A zs.length zs) (j : Nat) (hj : j < zs.length) : ∃ ad, A = some ad ∧ w.cell? (ad.add j) = some (.int .i64 zs[j]) := by
  obtain ⟨ad, c, hA, _, hK, hc⟩ := Kd.C_get h 0 (j : Int) (by omega) (by omega)
  refine ⟨ad, hA, ?_⟩
  have hK' : c = [.int .i64 (zs.getD (j : Int).toNat 0)] := hK
  have := hc 0 (.int .i64 (zs.getD (j : Int).toNat 0)) (by rw [hK']; rfl)
  simpa [Kd.int, Kd.scalar, hj] using this

set_option maxRecDepth 100000 in
set_option maxHeartbeats 4000000 in
theorem law_call (A0 A1 A3 : Option Addr) (c0 c1 c3 : Nat) (zs : List Int) (xs : List S41) (nx : Int) (ks : List S47) (w : World)
    (h0 : Kd.C (Kd.int .i64) w A0 zs.length zs) (hc0 : zs.length ≤ c0)
    (h1 : Kd.C k41 w A1 xs.length xs) (hc1 : xs.length ≤ c1) (hn1 : xs.length < 5864062014700) (hw1 : ∀ x ∈ xs, (Lit.int .u64 x.f1).wf = true)
    (h3 : Kd.C k47 w A3 ks.length ks) (hc3 : ks.length ≤ c3) (hn3 : ks.length < 1599289640370)
    (hwf : ∀ x ∈ ks, (Lit.int .i64 x.f0).wf = true ∧ (-9223372036854775808 ≤ x.f1.f0 ∧ x.f1.f0 ≤ 9223372036854775807)) :
    Calls Try.prog 3 #[.slice A0 zs.length c0, .agg #[.slice A1 xs.length c1, .int .i64 nx, .slice A3 ks.length c3]] w fun e w' => e = .returned (.bool true) ∧ Below w.heap.size w w' := by
  have hzl : zs.length ≤ 9223372036854775807 := h0.2.1
  have H0 := Lib.hid h0
  have H1 := Lib.hid h1
  have H3 := Lib.hid h3
  have HW1 := Lib.hid hw1
  have HWF := Lib.hid hwf
  clear h0 h1 h3 hw1 hwf
  have AN := Lib.hid (fun (x : World) (h : w.heap.size ≤ x.heap.size) => arena_new x w.heap.size h)
  have RN := Lib.hid (fun (x : World) (h : w.heap.size ≤ x.heap.size) => ref_new x w.heap.size h)
  go_enter Try.func3, Try.ntmps3
  go_wp2_with fail
  refine (AN.out _ (by rw [size_a]; exact Nat.le_succ _)).mono ?_
  rintro e w1 ⟨pa, rfl, A1', T1⟩
  have BX1 := Lib.hid (T1.heap (alloc_new w (.cells #[.slice A1 xs.length c1, .int .i64 nx, .slice A3 ks.length c3] 26)) (fun h => h))
  have T1' := Lib.hid (((Turn.refl (fun _ => False) w).alloc (.cells #[.slice A1 xs.length c1, .int .i64 nx, .slice A3 ks.length c3] 26)).then T1 (fun _ h => h.elim))
  have AZ1 := Lib.hid A1'
  clear A1' T1
  go_wp2_with fail
  refine (RN.out _ (by have := T1'.out.size; exact this)).mono ?_
  rintro e w2 ⟨pr, rfl, R2', T2⟩
  have TW := Lib.hid (two_start (n1 := w.heap.size + 1) (Nat.lt_succ_self _) (ArZ_mono AZ1.out (fun k hk => ⟨by have := hk.1; rw [size_a] at this; exact this, hk.2⟩)) R2' T1'.out T2 (by have := BX1.out; have := (Array.getElem?_eq_some_iff.1 this).1; exact this))
  have BX2 := Lib.hid (T2.heap BX1.out (fun h => h))
  clear AZ1 BX1 T1' R2' T2 AN RN
  go_wp2_with fail
  have hzs0 : (0 : Int) ≤ (zs.length : Int) := by omega
  go_loopg [33] (zs.length + 1) (fun kq v33 w' => ∃ j : Nat, v33 = .int .i64 j ∧ Hid (∃ cls, (j + kq = zs.length + 1 ∧ j ≤ zs.length) ∧ Two w pa pr cls cls w' ∧ w'.heap[w.heap.size]? = some (.cells #[.slice A1 xs.length c1, .int .i64 nx, .slice A3 ks.length c3] 26 (0, 0))))
  case atStart => exact ⟨0, rfl, Lib.hid ⟨[], ⟨by omega, by omega⟩, TW.out, BX2.out⟩⟩
  case round =>
    clear TW BX2
    obtain ⟨j, rfl, HI⟩ := hrel
    obtain ⟨cls, ⟨hk, hjl⟩, TW, BX⟩ := HI.out
    clear HI
    by_cases hj : j < zs.length
    · obtain ⟨F, G, hA, hR, hd, hF, hG, B⟩ := TW
      obtain ⟨ad, hA0, hcz⟩ := int_at (Kd.C_below H0.out B) j hj
      subst hA0
      have hjx : (j : Int) < (zs.length : Int) := by omega
      have hj0 : (0 : Int) ≤ (j : Int) := by omega
      have hlt := Lib.hid (show w.heap.size < wr.heap.size from (Array.getElem?_eq_some_iff.1 BX).1)
      have hcl : cls.length ≤ 131072 := by obtain ⟨_, _, _, _, _, _, h⟩ := hR; exact h
      have AC := Lib.hid (alloc_call wr w.heap.size pa zs[j] cls F hA (Nat.le_of_lt hlt.out) hcl (fun k hk => (hF k hk).2))
      have K1 := Lib.hid (fun (W' : World) (hA' : ArZ W' w.heap.size pa (allocNext cls zs[j]) (fun k => F k ∨ (wr.heap.size ≤ k ∧ k < W'.heap.size))) (T : Turn F wr W') => two_alloc hR hd hF hG B hlt.out hA' T)
      have K2 := Lib.hid (fun (W' : World) (T : Turn F wr W') => T.heap BX (fun h => by have := (hF _ h).1; omega))
      clear hA hR hd hF hG B BX hcl
      generalize zs[j] = z at *
      go_wp2_with fail
      refine AC.out.mono ?_
      rintro e w3 ⟨⟨a, c, rfl⟩, hA', T3⟩
      have TW3 := K1.out _ hA' T3
      have BX3 := K2.out _ T3
      clear hA' T3 K1 K2 AC hlt
      obtain ⟨F, G, hA, hR, hd, hF, hG, B⟩ := TW3
      have hlt := Lib.hid (show w.heap.size < w3.heap.size from (Array.getElem?_eq_some_iff.1 BX3).1)
      have RC := Lib.hid (ralloc_call w3 w.heap.size pr z cls G hR (Nat.le_of_lt hlt.out) (fun k hk => (hG k hk).2))
      have K1 := Lib.hid (fun (W' : World) (hR' : RefZ W' w.heap.size pr (allocNext cls z) (fun k => G k ∨ (w3.heap.size ≤ k ∧ k < W'.heap.size))) (T : Turn G w3 W') => two_ralloc hA hd hF hG B hlt.out hR' T)
      have K2 := Lib.hid (fun (W' : World) (T : Turn G w3 W') => T.heap BX3 (fun h => by have := (hG _ h).1; omega))
      clear hA hR hd hF hG B BX3
      go_wp2_with fail
      refine RC.out.mono ?_
      rintro e w4 ⟨⟨a2, c2, rfl⟩, hR', T4⟩
      have TW4 := Lib.hid (K1.out _ hR' T4)
      have BX4 := Lib.hid (K2.out _ T4)
      clear hR' T4 K1 K2 RC hlt
      go_wp2_with fail
      go_roundg (gk - 1)
      case measure => omega
      case rel => exact ⟨j + 1, by simp, Lib.hid ⟨_, ⟨by omega, by omega⟩, TW4.out, BX4.out⟩⟩
    · have hjx : ¬ ((j : Int) < (zs.length : Int)) := by omega
      obtain ⟨F, G, hA, hR, hd, hF, hG, B⟩ := TW
      have C1 := Lib.hid (Kd.C_below H1.out B)
      have C3 := Lib.hid (Kd.C_below H3.out B)
      have ZA := Lib.hid hA
      have ZR := Lib.hid hR
      have HF := Lib.hid (fun k hk => (hF k hk).2)
      have HG := Lib.hid (fun k hk => (hG k hk).2)
      have BW := Lib.hid B
      have KB := Lib.hid (fun (W : World) (h : Below wr.heap.size wr W) => keep_b BX h)
      have k0 := cell_of (i := 0) (v := .slice A1 xs.length c1) BX rfl
      clear hA hR hd hF hG B BX H0 H1 H3 hk hjl
      go_wp2_with fail
      refine (overs_call A1 c1 xs wr C1.out hc1 (by omega)).mono ?_
      rintro e w5 ⟨v5, rfl, R5, B5⟩
      have R5H := Lib.hid R5
      have B5H := Lib.hid B5
      clear R5 B5 k0
      go_wp2_with (first
        | (at_builtin; refine Kd.R_append_rows k41 (w0 := wr) (Rr := k41.K w5) wr.heap.size rfl (.tmp 46) (.tmp 49) 23 41 (.agg #[(.string ⟨#[]⟩), (.int .u64 0)]) 24 rfl Try.underlying23 info41 rfl (by decide) (by omega) v5 xs [bh, bh] _ _ _ (fun _ => True) (fun _ => False) rfl rfl (Kd.R_alloc R5H.out _) (two41 w5 bh bh) (fun _ _ h => h) (fun _ h => h.elim) (fun _ _ => trivial) (Below.alloc B5H.out B5H.out.size _) (Below.alloc B5H.out B5H.out.size _).size (by show (xs.length + 2) * 24 ≤ 140737488355328; omega) ?_; intro v6 w6 R6 B6 hg6 hat6; have R6H := Lib.hid R6; have B6H := Lib.hid B6; have k62 := cell_of (i := 2) (v := .slice A3 ks.length c3) (KB.out _ B6) rfl; clear R6 B6 hg6 hat6)
        | (at_builtin; refine Kd.R_append_rows k47 (w0 := wr) (Rr := k47.K wr) wr.heap.size rfl (.tmp 51) (.tmp 53) 24 47 (.agg #[.int .i64 0, .int .i64 0, .int .i64 0, .int .i64 0, .int .i64 0, .int .i64 0, .int .i64 0, .int .i64 0, .int .i64 0, .int .i64 0, .int .i64 0]) 88 rfl Try.underlying24 info47 rfl (by decide) (by omega) (.slice none 0 0) ([] : List S47) ks _ _ _ (fun _ => True) (fun _ => False) rfl rfl (Kd.R_nil _ _ _ _ _) (Kd.C_below C3.out B6H.out) (fun _ _ h => h) (fun _ h => h.elim) (fun _ _ => trivial) B6H.out B6H.out.size (by show (0 + ks.length) * 88 ≤ 140737488355328; omega) ?_; intro v7 w7 R7 B7 hg7 hat7; have R7H := Lib.hid R7; have B7H := Lib.hid B7; have R67 := Lib.hid (Kd.R_grown R6H.out hg7 (fun k _ => by simp [Value.ownBlock])); clear R7 B7 hg7 hat7 k62)
        | (at_builtin; refine Kd.R_append_rows k47 (w0 := wr) (Rr := k47.K wr) wr.heap.size rfl (.tmp 55) (.tmp 58) 24 47 (.agg #[.int .i64 0, .int .i64 0, .int .i64 0, .int .i64 0, .int .i64 0, .int .i64 0, .int .i64 0, .int .i64 0, .int .i64 0, .int .i64 0, .int .i64 0]) 88 rfl Try.underlying24 info47 rfl (by decide) (by omega) v7 ([] ++ ks) [m5 (-5), m5 (-6)] _ _ _ (fun _ => True) (fun _ => False) rfl rfl (Kd.R_alloc R7H.out _) (two47 w7 (-5) (-6)) (fun _ _ h => h) (fun _ h => h.elim) (fun _ _ => trivial) (Below.alloc B7H.out B7H.out.size _) (Below.alloc B7H.out B7H.out.size _).size (by show (([] ++ ks).length + 2) * 88 ≤ 140737488355328; rw [List.nil_append]; omega) ?_; intro v8 w8 R8 B8 hg8 hat8; have R8H := Lib.hid R8; have B8H := Lib.hid B8; have R68 := Lib.hid (R41_keep (Kd.R_alloc R67.out _) hg8 (Kd.R_alloc R7H.out _)); clear R8 B8 hg8 hat8))
      obtain ⟨g6, c6, rfl, hc6, hg6⟩ := R_shape R68.out
      have R8N := Lib.hid (show Kd.R k47 47 w8 wr.heap.size (fun _ => True) v8 (ks ++ [m5 (-5), m5 (-6)]) from R8H.out)
      obtain ⟨g8, c8, rfl, hc8, hg8⟩ := R_shape R8N.out
      clear R5H B5H R6H B6H R7H B7H R67 R8H
      have hb6 : (xs.length : Int) ≤ (c6 : Int) := by omega
      have hb8 : (ks.length : Int) ≤ (c8 : Int) := by omega
      have hx0 : (0 : Int) ≤ (xs.length : Int) := by omega
      have hk0 : (0 : Int) ≤ (ks.length : Int) := by omega
      have KC := Lib.hid (show ∀ x : World, Below wr.heap.size wr x → x.cell? ⟨w.heap.size, 0, none⟩ = some (.slice A1 xs.length c1) ∧ x.cell? ⟨w.heap.size, 1, none⟩ = some (.int .i64 nx) ∧ x.cell? ⟨w.heap.size, 2, none⟩ = some (.slice A3 ks.length c3) from fun x h => ⟨cell_of (KB.out x h) rfl, cell_of (KB.out x h) rfl, cell_of (KB.out x h) rfl⟩)
      obtain ⟨k0, k1, k2⟩ := KC.out _ B8H.out
      have b80 := Lib.hid (show Below wr.heap.size wr w8.drew from Below.drew B8H.out)
      have b81 := Lib.hid (fun o => show Below wr.heap.size wr (w8.drew.alloc o) from Below.alloc b80.out b80.out.size o)
      go_region_held3 (fun x => x.cell? ⟨w.heap.size, 0, none⟩ = some (.slice A1 xs.length c1) ∧ x.cell? ⟨w.heap.size, 1, none⟩ = some (.int .i64 nx) ∧ x.cell? ⟨w.heap.size, 2, none⟩ = some (.slice A3 ks.length c3))
        ((first | exact KC.out _ b80.out | exact KC.out _ (b81.out _)))
        (fail)
      have b9 := Lib.hid (show Below wr.heap.size wr (w8.alloc (.cells #[.slice (some ⟨g6, 0, none⟩) xs.length c6, .int .i64 nx, .slice (some ⟨g8, 0, none⟩) ks.length c8] 26)).drew from Below.drew (Below.alloc B8H.out B8H.out.size _))
      have G9 := Lib.hid (show (w8.alloc (.cells #[.slice (some ⟨g6, 0, none⟩) xs.length c6, .int .i64 nx, .slice (some ⟨g8, 0, none⟩) ks.length c8] 26)).drew.heap[w8.heap.size]? = some (.cells #[.slice (some ⟨g6, 0, none⟩) xs.length c6, .int .i64 nx, .slice (some ⟨g8, 0, none⟩) ks.length c8] 26 (0, 0)) from alloc_new w8 _)
      have R69 := Lib.hid (Kd.R_drew (Kd.R_alloc R68.out (.cells #[.slice (some ⟨g6, 0, none⟩) xs.length c6, .int .i64 nx, .slice (some ⟨g8, 0, none⟩) ks.length c8] 26)))
      have R89 := Lib.hid (Kd.R_drew (Kd.R_alloc R8N.out (.cells #[.slice (some ⟨g6, 0, none⟩) xs.length c6, .int .i64 nx, .slice (some ⟨g8, 0, none⟩) ks.length c8] 26)))
      rename_i hh
      clear hh k0 k1 k2 b80 b81 B8H R68 R8N
      generalize w8.heap.size = gv at *
      generalize (w8.alloc (.cells #[.slice (some ⟨g6, 0, none⟩) xs.length c6, .int .i64 nx, .slice (some ⟨g8, 0, none⟩) ks.length c8] 26)).drew = w9 at *
      have m0 := cell_of (i := 0) (v := .slice (some ⟨g6, 0, none⟩) xs.length c6) G9.out rfl
      have m1 := cell_of (i := 1) (v := .int .i64 nx) G9.out rfl
      have m2 := cell_of (i := 2) (v := .slice (some ⟨g8, 0, none⟩) ks.length c8) G9.out rfl
      have RS := Lib.hid (restore_call pa cls F (some ⟨g6, 0, none⟩) (some ⟨g8, 0, none⟩) c6 c8 xs nx ks w9 (Kd.R_reads' (R_take R69.out (by simp))).2.2 (by omega) (by omega) HW1.out (Kd.R_reads' (R_take R89.out (by simp))).2.2 (by omega) (by omega) HWF.out (ArZ_kept ZA.out (Turn.of_below (F := fun _ => False) b9.out (Nat.le_refl _)) (fun _ _ h => h)))
      go_wp2_with fail
      refine RS.out.mono ?_
      rintro e w10 ⟨P, B10⟩
      have b10 := Lib.hid (b9.out.trans (B10.mono b9.out.size))
      have G10 := Lib.hid (keep_b G9.out B10)
      have R610 := Lib.hid (Kd.R_below R69.out B10)
      have R810 := Lib.hid (Kd.R_below R89.out B10)
      have hg69 := Lib.hid (show g6 < w9.heap.size from by obtain ⟨cur, hc⟩ := row_typed (Kd.R_own R69.out).choose_spec g6 rfl; exact (Array.getElem?_eq_some_iff.1 hc).1)
      have hg89 := Lib.hid (show g8 < w9.heap.size from by obtain ⟨cur, hc⟩ := row_typed (Kd.R_own R89.out).choose_spec g8 rfl; exact (Array.getElem?_eq_some_iff.1 hc).1)
      have hw9 := Lib.hid b9.out.size
      clear m0 m1 m2 RS B10 G9 R69 R89 b9
      obtain ⟨k0, k1, k2⟩ := KC.out _ b10.out
      obtain ⟨q0, q1⟩ := R41_at R610.out
      obtain ⟨q2, q3⟩ := R47_at R810.out
      unfold bh at q0 q1
      have hcod := codes xs nx ks cls
      have HCO := Lib.hid hcod
      clear hcod
      have RF := Lib.hid (refuses_call w.heap.size pr cls G A1 A3 c1 c3 xs nx ks w10 (Kd.C_below C1.out b10.out) hc1 (by omega) (Kd.C_below C3.out b10.out) hc3 (by omega) (fun x hx => WalkArith.wf_i64 (HWF.out x hx).2) (RefZ_kept ZR.out (Turn.of_below (F := fun _ => False) b10.out (Nat.le_refl _)) (fun _ _ h => h)))
      obtain ⟨kf, r2, r3, hf0⟩ := holds_true xs ks nx (by omega) (by omega)
      have hf := Lib.hid hf0
      clear hf0
      rcases P with ⟨z, ps, mb, po, vo, rfl, SH⟩ | ⟨nz, rfl⟩
      · have SHH := Lib.hid SH
        have HRI := Lib.hid (hCode_rising z)
        clear SH
        go_wp2_with fail
        refine RF.out.mono ?_
        rintro e w11 ⟨he, B11⟩
        rw [← HCO.out, z] at he
        subst he
        have b11 := Lib.hid (b10.out.trans (B11.mono b10.out.size))
        have G11 := Lib.hid (keep_b G10.out B11)
        have R611 := Lib.hid (R_take (Kd.R_below R610.out B11) (by simp))
        have R811 := Lib.hid (R_take (Kd.R_below R810.out B11) (by simp))
        have S11 := Lib.hid (SHH.out.quiet (Turn.of_below (F := fun _ => False) B11 (Nat.le_refl _)))
        clear SHH z
        clear k0 k1 k2 q0 q1 q2 q3 B11 R610 R810 b10 G10 RF HCO
        obtain ⟨k0, k1, k2⟩ := KC.out _ b11.out
        have m0 := cell_of (i := 0) (v := .slice (some ⟨g6, 0, none⟩) xs.length c6) G11.out rfl
        have m1 := cell_of (i := 1) (v := .int .i64 nx) G11.out rfl
        have m2 := cell_of (i := 2) (v := .slice (some ⟨g8, 0, none⟩) ks.length c8) G11.out rfl
        have HOL := Lib.hid (larderlaw14_holds.calls kf (fun k => k = g6) (.slice (some ⟨g6, 0, none⟩) xs.length c6) xs nx (fun k => k = g8) (.slice (some ⟨g8, 0, none⟩) ks.length c8) ks A1 c1 xs nx A3 c3 ks true r2 r3 wr w11 b11.out (Kd.R_flat (fun h => h) R611.out (fun k hk _ => (Option.some.inj hk).symm)) (Kd.R_flat (fun h => h) R811.out (fun k hk _ => (Option.some.inj hk).symm)) (Kd.C_kept_came heap41 C1.out b11.out (fun k hk => by rcases hk with rfl | rfl; exact hg6; exact hg8)) hc1 (Kd.C_kept_came heap47 C3.out b11.out (fun k hk => by rcases hk with rfl | rfl; exact hg6; exact hg8)) hc3 hf.out)
        go_wp2_with fail
        refine HOL.out.mono ?_
        rintro e w12 ⟨rfl, -, -, B12, K12⟩
        have b12 := Lib.hid B12
        have S12 := Lib.hid (S11.out.kept K12 (fun k hk => by rcases hk with rfl | rfl; exact hg69.out; exact hg89.out))
        clear k0 k1 k2 m0 m1 m2 HOL R611 R811 B12 K12 G11
        go_wp2_with fail
        have KC12 := Lib.hid (KC.out _ (Below.drew b12.out))
        have S120 := Lib.hid (S12.out.quiet (Turn.refl (fun _ => False) w12).drew)
        have eqp := eq_ptr ⟨pa, 0, none⟩
        have HLD := Lib.hid (hold_call S120.out HRI.out (by omega) (fun x hx => (HWF.out x hx).1) (by omega))
        obtain ⟨k0, k1, k2⟩ := KC.out _ b12.out
        go_region_held3 (fun x => x.cell? ⟨w.heap.size, 0, none⟩ = some (.slice A1 xs.length c1) ∧ x.cell? ⟨w.heap.size, 1, none⟩ = some (.int .i64 nx) ∧ x.cell? ⟨w.heap.size, 2, none⟩ = some (.slice A3 ks.length c3))
          ((first | with_reducible exact KC.out _ b14.out | with_reducible exact KC.out _ b13.out | exact KC12.out))
          ((first | (go_at_call 12; refine (arena_call2 S120.out.hp).mono ?_; rintro e wa ⟨rfl, rfl⟩) | (go_at_call 13; refine HLD.out.mono ?_; rintro e w13 ⟨v1, vl, rfl, Q1, Q2, T13⟩; have b13 := Lib.hid (show Below wr.heap.size wr w13 from (Below.drew b12.out).trans (T13.below (fun k hk => by subst hk; exact Nat.le_trans hw9.out S12.out.hps) b12.out.size)); have Q1H := Lib.hid Q1; have Q2H := Lib.hid Q2; clear Q1 Q2 T13) | (go_at_call 11; refine (larderlaw14_holds.calls kf (fun k => wr.heap.size ≤ k) v1 xs nx (fun k => wr.heap.size ≤ k) vl ks A1 c1 xs nx A3 c3 ks true r2 r3 wr w13 b13.out (Kd.R_mono (Kd.R_bound (Kd.R_lower Q1H.out b12.out.size)) (fun k hk => hk.2.1)) (Kd.R_mono (Kd.R_bound (Kd.R_lower Q2H.out b12.out.size)) (fun k hk => hk.2.1)) (Kd.C_kept_came heap41 C1.out b13.out (fun k hk => hk.elim id id)) hc1 (Kd.C_kept_came heap47 C3.out b13.out (fun k hk => hk.elim id id)) hc3 hf.out).mono ?_; rintro e w14 ⟨rfl, -, -, B14, -⟩; have b14 := Lib.hid B14; clear B14)))
        go_wp2_with fail
        go_ret
        exact ⟨rfl, BW.out.trans (b14.out.mono BW.out.size)⟩
      · have hcb : (hCode xs nx ks cls == 0) = false := by simpa using nz
        go_wp2_with fail
        refine RF.out.mono ?_
        rintro e w11 ⟨he, B11⟩
        rw [← HCO.out] at he
        subst he
        have b11 := Lib.hid (b10.out.trans (B11.mono b10.out.size))
        have G11 := Lib.hid (keep_b G10.out B11)
        have R611 := Lib.hid (R_take (Kd.R_below R610.out B11) (by simp))
        have R811 := Lib.hid (R_take (Kd.R_below R810.out B11) (by simp))
        clear k0 k1 k2 q0 q1 q2 q3 B11 R610 R810 b10 G10 RF HCO
        obtain ⟨k0, k1, k2⟩ := KC.out _ b11.out
        have m0 := cell_of (i := 0) (v := .slice (some ⟨g6, 0, none⟩) xs.length c6) G11.out rfl
        have m1 := cell_of (i := 1) (v := .int .i64 nx) G11.out rfl
        have m2 := cell_of (i := 2) (v := .slice (some ⟨g8, 0, none⟩) ks.length c8) G11.out rfl
        have HOL := Lib.hid (larderlaw14_holds.calls kf (fun k => k = g6) (.slice (some ⟨g6, 0, none⟩) xs.length c6) xs nx (fun k => k = g8) (.slice (some ⟨g8, 0, none⟩) ks.length c8) ks A1 c1 xs nx A3 c3 ks true r2 r3 wr w11 b11.out (Kd.R_flat (fun h => h) R611.out (fun k hk _ => (Option.some.inj hk).symm)) (Kd.R_flat (fun h => h) R811.out (fun k hk _ => (Option.some.inj hk).symm)) (Kd.C_kept_came heap41 C1.out b11.out (fun k hk => by rcases hk with rfl | rfl; exact hg6; exact hg8)) hc1 (Kd.C_kept_came heap47 C3.out b11.out (fun k hk => by rcases hk with rfl | rfl; exact hg6; exact hg8)) hc3 hf.out)
        go_wp2_with fail
        · exfalso
          rename_i hh
          simp [nz] at hh
        refine HOL.out.mono ?_
        rintro e w12 ⟨rfl, -, -, B12, K12⟩
        have b12 := Lib.hid (BW.out.trans (B12.mono BW.out.size))
        clear k0 k1 k2 m0 m1 m2 HOL R611 R811 B12 K12 G11
        go_wp2_with fail
        go_region
        go_wp2_with fail
        go_ret
        exact ⟨rfl, by repeat (first | exact b12.out | apply Below.drew)⟩
end Go.Proofs.Ytccblcnjeekhbaa
/- The law's two arguments as they lie in memory: a slice of numbers; a hold. -/
namespace Go.Proofs.Ytccblcnjeekhbaa
open Go.RowKit Go.Proofs.Ytccblcnjeekhbaa.PStoreHolds Go.Proofs.YtccblcnjeekhbaaW.PrintWords
open Go.ChangeShapes Go.WideShapes
set_option linter.unusedVariables false
set_option linter.unusedSimpArgs false
set_option maxRecDepth 100000

theorem n3 : Try.prog.cellsOf 3 = 1 := by kernel_rfl
theorem n9 : Try.prog.cellsOf 9 = 1 := by kernel_rfl
theorem n23 : Try.prog.cellsOf 23 = 1 := by kernel_rfl
theorem n24 : Try.prog.cellsOf 24 = 1 := by kernel_rfl
theorem n26 : Try.prog.cellsOf 26 = 3 := by kernel_rfl
theorem n39 : Try.prog.cellsOf 39 = 1 := by kernel_rfl
theorem n41 : Try.prog.cellsOf 41 = 2 := by kernel_rfl
theorem n43 : Try.prog.cellsOf 43 = 9 := by kernel_rfl
theorem n45 : Try.prog.cellsOf 45 = 10 := by kernel_rfl
theorem n47 : Try.prog.cellsOf 47 = 11 := by kernel_rfl
theorem by41 : Try.prog.bytesOf 41 = 24 := by kernel_rfl
theorem by47 : Try.prog.bytesOf 47 = 88 := by kernel_rfl
instance : Inhabited S41 := ⟨z41⟩
instance : Inhabited S47 := ⟨z47⟩
section
variable {H : Type} {enc : TypeId × Value → H} {w : World} {base : Nat} {spare : Nat → Bool} {held : Bool} {a : Option Addr} {len cap fuel : Nat} {x : DataW H × List MemPlace} {cs : List Value}
theorem open41 (hl : cs.length = 2) (h : DataW.trod enc Try.prog w base spare held fuel 41 cs = some x) : ∃ y : S41, cs = [.string y.f0, .int .u64 y.f1] ∧ (Lit.int .u64 y.f1).wf = true := by
  obtain ⟨xs, q, hq, hxy, _, hxl, hf⟩ := DataW.trod_struct Try.underlying41 h
  have hxl : xs.length = 2 := hxl
  match cs, hl with
  | [v0, v1], _ =>
    have g0 := hf 0 _ rfl
    have g1 := hf 1 _ rfl
    simp [n9, n39] at g0 g1
    rw [List.getElem?_eq_getElem (by omega)] at g0 g1
    obtain ⟨s, e0, -, w0⟩ := DataW.trod_string Try.underlying9 g0
    obtain ⟨u, e1, -, w1⟩ := DataW.trod_int Try.underlying39 g1
    simp at e0 e1
    subst e0 e1
    exact ⟨⟨s, u⟩, rfl, w1⟩
theorem open43 (hl : cs.length = 9) (h : DataW.trod enc Try.prog w base spare held fuel 43 cs = some x) : ∃ y : S43, cs = [.int .i64 y.f0, .int .i64 y.f1, .int .i64 y.f2, .int .i64 y.f3, .int .i64 y.f4, .int .i64 y.f5, .int .i64 y.f6, .int .i64 y.f7, .int .i64 y.f8] := by
  obtain ⟨xs, q, hq, hxy, _, hxl, hf⟩ := DataW.trod_struct Try.underlying43 h
  have hxl : xs.length = 9 := hxl
  match cs, hl with
  | [v0, v1, v2, v3, v4, v5, v6, v7, v8], _ =>
    have g0 := hf 0 _ rfl
    have g1 := hf 1 _ rfl
    have g2 := hf 2 _ rfl
    have g3 := hf 3 _ rfl
    have g4 := hf 4 _ rfl
    have g5 := hf 5 _ rfl
    have g6 := hf 6 _ rfl
    have g7 := hf 7 _ rfl
    have g8 := hf 8 _ rfl
    simp [n3] at g0 g1 g2 g3 g4 g5 g6 g7 g8
    rw [List.getElem?_eq_getElem (by omega)] at g0 g1 g2 g3 g4 g5 g6 g7 g8
    obtain ⟨i0, e0, -, -⟩ := DataW.trod_int Try.underlying3 g0
    obtain ⟨i1, e1, -, -⟩ := DataW.trod_int Try.underlying3 g1
    obtain ⟨i2, e2, -, -⟩ := DataW.trod_int Try.underlying3 g2
    obtain ⟨i3, e3, -, -⟩ := DataW.trod_int Try.underlying3 g3
    obtain ⟨i4, e4, -, -⟩ := DataW.trod_int Try.underlying3 g4
    obtain ⟨i5, e5, -, -⟩ := DataW.trod_int Try.underlying3 g5
    obtain ⟨i6, e6, -, -⟩ := DataW.trod_int Try.underlying3 g6
    obtain ⟨i7, e7, -, -⟩ := DataW.trod_int Try.underlying3 g7
    obtain ⟨i8, e8, -, -⟩ := DataW.trod_int Try.underlying3 g8
    simp at e0 e1 e2 e3 e4 e5 e6 e7 e8
    subst e0 e1 e2 e3 e4 e5 e6 e7 e8
    exact ⟨⟨i0, i1, i2, i3, i4, i5, i6, i7, i8⟩, rfl⟩
theorem open45 (hl : cs.length = 10) (h : DataW.trod enc Try.prog w base spare held fuel 45 cs = some x) : ∃ y : S45, cs = [.int .i64 y.f0, .int .i64 y.f1.f0, .int .i64 y.f1.f1, .int .i64 y.f1.f2, .int .i64 y.f1.f3, .int .i64 y.f1.f4, .int .i64 y.f1.f5, .int .i64 y.f1.f6, .int .i64 y.f1.f7, .int .i64 y.f1.f8] ∧ (Lit.int .i64 y.f0).wf = true := by
  obtain ⟨xs, q, hq, hxy, _, hxl, hf⟩ := DataW.trod_struct Try.underlying45 h
  have hxl : xs.length = 2 := hxl
  match cs, hl with
  | v0 :: r, hl =>
    have g0 := hf 0 _ rfl
    have g1 := hf 1 _ rfl
    simp [n3, n43] at g0 g1
    rw [List.getElem?_eq_getElem (by omega)] at g0 g1
    obtain ⟨i, e0, -, w0⟩ := DataW.trod_int Try.underlying3 g0
    have hr : r.length = 9 := by simpa using hl
    rw [List.take_of_length_le (by omega)] at g1
    obtain ⟨y, e1⟩ := open43 hr g1
    simp at e0
    subst e0 e1
    exact ⟨⟨i, y⟩, rfl, w0⟩
theorem open47 (hl : cs.length = 11) (h : DataW.trod enc Try.prog w base spare held fuel 47 cs = some x) : ∃ y : S47, cs = [.int .i64 y.f0, .int .i64 y.f1.f0, .int .i64 y.f1.f1.f0, .int .i64 y.f1.f1.f1, .int .i64 y.f1.f1.f2, .int .i64 y.f1.f1.f3, .int .i64 y.f1.f1.f4, .int .i64 y.f1.f1.f5, .int .i64 y.f1.f1.f6, .int .i64 y.f1.f1.f7, .int .i64 y.f1.f1.f8] ∧ (Lit.int .i64 y.f0).wf = true ∧ (Lit.int .i64 y.f1.f0).wf = true := by
  obtain ⟨xs, q, hq, hxy, _, hxl, hf⟩ := DataW.trod_struct Try.underlying47 h
  have hxl : xs.length = 2 := hxl
  match cs, hl with
  | v0 :: r, hl =>
    have g0 := hf 0 _ rfl
    have g1 := hf 1 _ rfl
    simp [n3, n45] at g0 g1
    rw [List.getElem?_eq_getElem (by omega)] at g0 g1
    obtain ⟨i, e0, -, w0⟩ := DataW.trod_int Try.underlying3 g0
    have hr : r.length = 10 := by simpa using hl
    rw [List.take_of_length_le (by omega)] at g1
    obtain ⟨y, e1, w1⟩ := open45 hr g1
    simp at e0
    subst e0 e1
    exact ⟨⟨i, y⟩, rfl, w0, w1⟩
/-- how long a slice's datum is -/
def DLen (d : DataW H) (len : Nat) : Prop := (d = .nil ∧ len = 0) ∨ ∃ es sp, d = .slice es sp ∧ es.length = len
theorem over_open (h : DataW.trod enc Try.prog w base spare held fuel 23 [.slice a len cap] = some x) : ∃ xs : List S41, xs.length = len ∧ len ≤ cap ∧ Kd.C k41 w a xs.length xs ∧ (∀ y ∈ xs, (Lit.int .u64 y.f1).wf = true) ∧ DLen x.1 len := by
  rcases Deep.open_slice Try.underlying23 h with ⟨hcs, hx⟩ | ⟨a', len', cap', m, n, D, Pl, hcs, hb, hl, hm, hmm, hxx, hx⟩
  · simp at hcs
    obtain ⟨rfl, rfl, rfl⟩ := hcs
    exact ⟨[], rfl, Nat.le_refl _, ⟨rfl, by simp, fun h => absurd h (by simp)⟩, fun _ h => (by cases h), .inl ⟨by rw [hx], rfl⟩⟩
  · simp at hcs
    obtain ⟨rfl, rfl, rfl⟩ := hcs
    have hlm : len ≤ m := by rw [hmm]; split <;> omega
    have each : ∀ k, k < len → ∃ y : S41, (∀ i u, ([.string y.f0, .int .u64 y.f1] : List Value)[i]? = some u → w.cell? (a'.add (k * 2 + i)) = some u) ∧ (Lit.int .u64 y.f1).wf = true := by
      intro k hk
      obtain ⟨cs, h1, h2⟩ := hx k (by omega)
      rw [n41] at h1
      obtain ⟨_, hlen, hcell⟩ := World.cells?_some h1
      obtain ⟨y, rfl, hw⟩ := open41 hlen h2
      refine ⟨y, fun i u hu => ?_, hw⟩
      have hi : i < 2 := (List.getElem?_eq_some_iff.1 hu).1
      rw [← Deep.add_add, hcell i hi]
      exact hu
    obtain ⟨f, hf⟩ := Deep.choose_lt each
    refine ⟨(List.range len).map f, by simp, hl, ⟨rfl, by simp; unfold maxLen at hm; omega, fun _ => ⟨a', rfl, fun j p hj => ?_⟩⟩, fun y hy => ?_, .inr ⟨_, _, by rw [hxx], by simp⟩⟩
    · obtain ⟨hlt, hp⟩ := List.getElem?_eq_some_iff.1 hj
      have hlt' : j < len := by simpa using hlt
      simp at hp
      subst hp
      exact ⟨_, rfl, k41_mk _ _, (hf j hlt').1⟩
    · obtain ⟨j, hj, rfl⟩ := List.mem_map.1 hy
      exact (hf j (List.mem_range.1 hj)).2
theorem maps_open (h : DataW.trod enc Try.prog w base spare held fuel 24 [.slice a len cap] = some x) : ∃ xs : List S47, xs.length = len ∧ len ≤ cap ∧ Kd.C k47 w a xs.length xs ∧ (∀ y ∈ xs, (Lit.int .i64 y.f0).wf = true ∧ (Lit.int .i64 y.f1.f0).wf = true) ∧ DLen x.1 len := by
  rcases Deep.open_slice Try.underlying24 h with ⟨hcs, hx⟩ | ⟨a', len', cap', m, n, D, Pl, hcs, hb, hl, hm, hmm, hxx, hx⟩
  · simp at hcs
    obtain ⟨rfl, rfl, rfl⟩ := hcs
    exact ⟨[], rfl, Nat.le_refl _, ⟨rfl, by simp, fun h => absurd h (by simp)⟩, fun _ h => (by cases h), .inl ⟨by rw [hx], rfl⟩⟩
  · simp at hcs
    obtain ⟨rfl, rfl, rfl⟩ := hcs
    have hlm : len ≤ m := by rw [hmm]; split <;> omega
    have each : ∀ k, k < len → ∃ y : S47, (∀ i u, ([.int .i64 y.f0, .int .i64 y.f1.f0, .int .i64 y.f1.f1.f0, .int .i64 y.f1.f1.f1, .int .i64 y.f1.f1.f2, .int .i64 y.f1.f1.f3, .int .i64 y.f1.f1.f4, .int .i64 y.f1.f1.f5, .int .i64 y.f1.f1.f6, .int .i64 y.f1.f1.f7, .int .i64 y.f1.f1.f8] : List Value)[i]? = some u → w.cell? (a'.add (k * 11 + i)) = some u) ∧ (Lit.int .i64 y.f0).wf = true ∧ (Lit.int .i64 y.f1.f0).wf = true := by
      intro k hk
      obtain ⟨cs, h1, h2⟩ := hx k (by omega)
      rw [n47] at h1
      obtain ⟨_, hlen, hcell⟩ := World.cells?_some h1
      obtain ⟨y, rfl, hw⟩ := open47 hlen h2
      refine ⟨y, fun i u hu => ?_, hw⟩
      have hi : i < 11 := (List.getElem?_eq_some_iff.1 hu).1
      rw [← Deep.add_add, hcell i hi]
      exact hu
    obtain ⟨f, hf⟩ := Deep.choose_lt each
    refine ⟨(List.range len).map f, by simp, hl, ⟨rfl, by simp; unfold maxLen at hm; omega, fun _ => ⟨a', rfl, fun j p hj => ?_⟩⟩, fun y hy => ?_, .inr ⟨_, _, by rw [hxx], by simp⟩⟩
    · obtain ⟨hlt, hp⟩ := List.getElem?_eq_some_iff.1 hj
      have hlt' : j < len := by simpa using hlt
      simp at hp
      subst hp
      exact ⟨_, rfl, k47_mk _ _, (hf j hlt').1⟩
    · obtain ⟨j, hj, rfl⟩ := List.mem_map.1 hy
      exact (hf j (List.mem_range.1 hj)).2
theorem ints_open (h : DataW.trod enc Try.prog w base spare held fuel 22 [.slice a len cap] = some x) : ∃ xs : List Int, xs.length = len ∧ len ≤ cap ∧ Kd.C (Kd.int .i64) w a xs.length xs := by
  rcases Deep.open_slice Try.underlying22 h with ⟨hcs, hx⟩ | ⟨a', len', cap', m, n, D, Pl, hcs, hb, hl, hm, hmm, hxx, hx⟩
  · simp at hcs
    obtain ⟨rfl, rfl, rfl⟩ := hcs
    exact ⟨[], rfl, Nat.le_refl _, ⟨rfl, by simp, fun h => absurd h (by simp)⟩⟩
  · simp at hcs
    obtain ⟨rfl, rfl, rfl⟩ := hcs
    have hlm : len ≤ m := by rw [hmm]; split <;> omega
    have each : ∀ k, k < len → ∃ y : Int, w.cell? (a'.add k) = some (.int .i64 y) := by
      intro k hk
      obtain ⟨cs, h1, h2⟩ := hx k (by omega)
      rw [n3, Nat.mul_one] at h1
      obtain ⟨_, hlen, hcell⟩ := World.cells?_some h1
      obtain ⟨y, rfl, -, -⟩ := DataW.trod_int Try.underlying3 h2
      refine ⟨y, ?_⟩
      have := hcell 0 (by omega)
      rw [Deep.add_add] at this
      exact this
    obtain ⟨f, hf⟩ := Deep.choose_lt each
    refine ⟨(List.range len).map f, by simp, hl, ⟨rfl, by simp; unfold maxLen at hm; omega, fun _ => ⟨a', rfl, fun j p hj => ?_⟩⟩⟩
    obtain ⟨hlt, hp⟩ := List.getElem?_eq_some_iff.1 hj
    have hlt' : j < len := by simpa using hlt
    simp at hp
    subst hp
    refine ⟨[.int .i64 (f j)], rfl, rfl, fun i u hu => ?_⟩
    match i, hu with
    | 0, hu =>
      cases hu
      have := hf j hlt'
      simpa [Kd.int, Kd.scalar] using this
theorem shape23 {v : Value} (h : DataW.trod enc Try.prog w base spare held fuel 23 [v] = some x) : ∃ a len cap, v = .slice a len cap := by
  rcases Deep.open_slice Try.underlying23 h with ⟨hcs, _⟩ | ⟨a', len', cap', m, n, D, Pl, hcs, _⟩
  · simp at hcs; exact ⟨_, _, _, hcs⟩
  · simp at hcs; exact ⟨_, _, _, hcs⟩
theorem shape24 {v : Value} (h : DataW.trod enc Try.prog w base spare held fuel 24 [v] = some x) : ∃ a len cap, v = .slice a len cap := by
  rcases Deep.open_slice Try.underlying24 h with ⟨hcs, _⟩ | ⟨a', len', cap', m, n, D, Pl, hcs, _⟩
  · simp at hcs; exact ⟨_, _, _, hcs⟩
  · simp at hcs; exact ⟨_, _, _, hcs⟩
theorem hold_open (hl : cs.length = 3) (h : DataW.trod enc Try.prog w base spare held fuel 26 cs = some x) : ∃ A1 c1 A3 c3, ∃ (xs : List S41) (nx : Int) (ks : List S47), cs = [.slice A1 xs.length c1, .int .i64 nx, .slice A3 ks.length c3] ∧ xs.length ≤ c1 ∧ Kd.C k41 w A1 xs.length xs ∧ (∀ y ∈ xs, (Lit.int .u64 y.f1).wf = true) ∧
    ks.length ≤ c3 ∧ Kd.C k47 w A3 ks.length ks ∧ (∀ y ∈ ks, (Lit.int .i64 y.f0).wf = true ∧ (Lit.int .i64 y.f1.f0).wf = true) ∧ ∃ d0 d1 d2, x.1 = .agg [d0, d1, d2] ∧ DLen d0 xs.length ∧ DLen d2 ks.length := by
  obtain ⟨ys, q, hq, hxy, _, hxl, hf⟩ := DataW.trod_struct Try.underlying26 h
  have hxl : ys.length = 3 := hxl
  match cs, hl, ys, hxl with
  | [v0, v1, v2], _, [y0, y1, y2], _ =>
    have g0 := hf 0 _ rfl
    have g1 := hf 1 _ rfl
    have g2 := hf 2 _ rfl
    simp [n3, n23, n24] at g0 g1 g2
    obtain ⟨A1, l1, c1, rfl⟩ := shape23 g0
    obtain ⟨A3, l3, c3, rfl⟩ := shape24 g2
    obtain ⟨nx, e1, -, -⟩ := DataW.trod_int Try.underlying3 g1
    simp at e1
    subst e1
    obtain ⟨xs, rfl, hc1, hC1, hw1, hd1⟩ := over_open g0
    obtain ⟨ks, rfl, hc3, hC3, hw3, hd3⟩ := maps_open g2
    exact ⟨A1, c1, A3, c3, xs, nx, ks, rfl, hc1, hC1, hw1, hc3, hC3, hw3, y0.1, y1.1, y2.1, by rw [hxy]; rfl, hd1, hd3⟩
end
theorem reach41 {H : Type} {ts : List TypeId} {ds : List (DataW H)} (hsz : (DataW.weightsEach Try.prog ts ds).all (· ≤ reachBytes) = true) {j : Nat} {d0 d1 d2 : DataW H} (ht : ts[j]? = some 26) (hd : ds[j]? = some (.agg [d0, d1, d2])) {n : Nat} (h : DLen d0 n) : n * 24 ≤ 140737488351232 := by
  rcases h with ⟨_, rfl⟩ | ⟨es, sp, rfl, rfl⟩
  · omega
  · have := List.all_eq_true.1 hsz _ (DataW.weights_mem_each ht hd ((es.length + sp.length) * Try.prog.bytesOf 41) (by simp [DataW.weights, DataW.weightsEach, Try.underlying26, Try.underlying23]))
    rw [by41] at this
    have t2 : (es.length + sp.length) * 24 ≤ reachBytes := of_decide_eq_true this
    unfold reachBytes at t2
    omega
theorem reach47 {H : Type} {ts : List TypeId} {ds : List (DataW H)} (hsz : (DataW.weightsEach Try.prog ts ds).all (· ≤ reachBytes) = true) {j : Nat} {d0 d1 d2 : DataW H} (ht : ts[j]? = some 26) (hd : ds[j]? = some (.agg [d0, d1, d2])) {n : Nat} (h : DLen d2 n) : n * 88 ≤ 140737488351232 := by
  rcases h with ⟨_, rfl⟩ | ⟨es, sp, rfl, rfl⟩
  · omega
  · have := List.all_eq_true.1 hsz _ (DataW.weights_mem_each ht hd ((es.length + sp.length) * Try.prog.bytesOf 47) (by simp [DataW.weights, DataW.weightsEach, Try.underlying26, Try.underlying24]))
    rw [by47] at this
    have t2 : (es.length + sp.length) * 88 ≤ reachBytes := of_decide_eq_true this
    unfold reachBytes at t2
    omega
theorem wf_range {n : Int} (h : (Lit.int .i64 n).wf = true) : -9223372036854775808 ≤ n ∧ n ≤ 9223372036854775807 := by
  simp [Lit.wf] at h
  have m0 : IntKind.i64.min = -9223372036854775808 := rfl
  rw [m0] at h
  omega
end Go.Proofs.Ytccblcnjeekhbaa
