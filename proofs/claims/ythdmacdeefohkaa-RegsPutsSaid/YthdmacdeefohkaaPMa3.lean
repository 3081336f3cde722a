-- Printed by the kit's print.py from a list of bodies that this session turned in four places; parts of it are this session's own.
import Derived.Test.YthdmacdeefohkaaPMa0
import Derived.Test.YthdmacdeefohkaaPMa1
namespace Go.Proofs.Ythdmacdeefohkaa.PMa
open Go.RowKit Go.Proofs.YthdmacdeefohkaaW.PrintWords Go.Proofs.YthdmacdeefohkaaW.PrintLast Go.Proofs.YthdmacdeefohkaaW.PrintMore
attribute [local go_sem] max2_int min2_int max_two min_two max_three min_three max_four min_four   -- for this text's walks alone
set_option linter.unusedVariables false
set_option linter.unusedSimpArgs false

/-! ### relictref01_Norm: function 125 -/
def relictref01_Norm.f (k : Nat) (l0 : List Int) : Option (List Int) := if l0.length ≤ 1000 then some (l0.take (Go.Proofs.YthdmacdeefohkaaLeaf.keepN l0 l0.length)) else none
theorem relictref01_Norm.mono : ∀ a0 k, LeO (relictref01_Norm.f k a0) (relictref01_Norm.f (k + 1) a0) := fun a0 k => by unfold relictref01_Norm.f; exact LeO.refl _
theorem relictref01_Norm.calls (k : Nat) (A0 : Option Addr) (c0 : Nat) (l0 : List Int) (r : List Int) (w : World) (hr0 : Kd.C (Kd.int .u32) w A0 l0.length l0) (hc0 : l0.length ≤ c0) (h : relictref01_Norm.f k l0 = some r) :
    Calls Try.prog 125 #[.slice A0 l0.length c0] w fun e w' => ∃ v0_ : Value, e = .returned (v0_) ∧ Kd.R (Kd.int .u32) 123 w' w.heap.size (fun _ => True) v0_ r ∧ Below w.heap.size w w' := by
  unfold relictref01_Norm.f at h
  split at h
  · injection h with h
    subst h
    exact Go.Proofs.YthdmacdeefohkaaLeaf.rnorm_calls w A0 c0 l0 (Kd.reads_of_C (enc := Value.int .u32) (d := (0 : Int)) (h1 := fun _ => rfl) hr0) hc0 (by omega)
  · cases h

/-! ### relictref02_made: function 121 -/
/-! ### relictref02_Of: function 110 -/
open Go.Proofs.YthdmacdeefohkaaMem Go.Proofs.YthdmacdeefohkaaLeaf Go.Proofs.YthdmacdeefohkaaBits in
set_option maxHeartbeats 4000000 in
set_option maxRecDepth 100000 in
theorem rmade_own (w : World) (A : Option Addr) (c : Nat) (xs ys : List Int) (hr : ReadsInt w .u32 A xs.length xs) (hc : xs.length ≤ c) (hm : xs.length ≤ 12) (hys : xs.take (keepN xs xs.length) = ys) :
    Calls Try.prog 121 #[.bool false, .slice A xs.length c] w fun e w' => ∃ v : Value, e = .returned (.tuple #[.agg #[.bool false, v], .bool true]) ∧ Kd.R (Kd.int .u32) 123 w' w.heap.size (fun k => k ≠ w.heap.size) v ys ∧ Below w.heap.size w w' := by
  have HC := Aside0.mk (rnorm_calls (w.alloc (.cells #[.bool false, .slice none 0 0] 42)) A c xs (hr.below (below_alloc (Below.refl _ w) _)) hc (by omega))
  rw [hys] at HC
  have hyl : ys.length ≤ 12 := by rw [← hys, List.length_take]; omega
  obtain ⟨n, hn⟩ : ∃ n, xs.length = n := ⟨_, rfl⟩
  rw [hn] at HC hc hm ⊢
  clear hr hn hys
  have hy2 : ¬ (ys.length : Int) > 12 := by omega
  go_enter Try.func121, Try.ntmps121
  go_wp2_with fail
  refine HC.out.mono ?_
  rintro e w1 ⟨v, rfl, hR, hb1⟩
  obtain ⟨A', c', rfl, hcc, hC⟩ := Kd.R_reads hR
  have HR1 := Aside0.mk hR
  have h4 : w1.heap[w.heap.size]? = some (.cells #[.bool false, .slice none 0 0] 42 (0, 0)) := (hb1.block _ (by simp)).trans (heap_alloc_new _ _)
  have H4 := Aside0.mk h4
  have HB1 := Aside0.mk (below_step (below_alloc (Below.refl _ w) _) hb1)
  obtain ⟨c40, c41, f40, f41⟩ := two_cells h4
  clear hR hb1 h4 HC hC
  go_wp2_with fail
  refine bodyPost_ret (results_ct rfl _ _ w.heap.size 42 #[.bool false, .slice A' ys.length c'] (0, 0) _ rfl (two_put H4.out) Try.underlying42 rfl (by kernel_rfl)) rfl ?_
  refine ⟨_, rfl, ?_, below_set (below_set HB1.out (Nat.le_refl _)) (Nat.le_refl _)⟩
  have q := Kd.R_types HR1.out H4.out (by decide)
  exact Kd.R_mono (Kd.R_lower (Kd.R_far (p := ⟨w.heap.size, 1, none⟩) (Kd.R_far (p := ⟨w.heap.size, 0, none⟩) q (fun _ hk => hk.2) _) (fun _ hk => hk.2) _) (by simp)) (fun _ hk => hk.2)
open Go.Proofs.YthdmacdeefohkaaMem Go.Proofs.YthdmacdeefohkaaLeaf Go.Proofs.YthdmacdeefohkaaBits in
set_option maxHeartbeats 4000000 in
set_option maxRecDepth 100000 in
theorem rof_own (w : World) (v : Int) (h0 : 0 ≤ v) (h1 : v < 9223372036854775808) :
    Calls Try.prog 110 #[.int .i64 v] w fun e w' => ∃ u : Value, e = .returned (.agg #[.bool false, u]) ∧ Kd.R (Kd.int .u32) 123 w' w.heap.size (fun _ => True) u (limbs v) ∧ Below w.heap.size w w' := by
  have e1 : IntKind.u64.wrap v = v := by rw [wrap_u64]; omega
  have e2 : ¬ v < 0 := by omega
  have e3 : IntKind.u32.wrap v = v % 4294967296 := by simp [IntKind.wrap, IntKind.bits, IntKind.signed]
  have e4 : IntKind.u32.wrap (v / 4294967296) = v / 4294967296 := by simp [IntKind.wrap, IntKind.bits, IntKind.signed]; omega
  have hl := limbs_of v h0
  obtain ⟨W1, hW1⟩ : ∃ W1, w.alloc (.cells #[.bool false, .slice none 0 0] 42) = W1 := ⟨_, rfl⟩
  have hs1 : W1.heap.size = w.heap.size + 1 := by rw [← hW1]; simp
  have hg4 : W1.heap[w.heap.size]? = some (.cells #[.bool false, .slice none 0 0] 42 (0, 0)) := by rw [← hW1]; exact heap_alloc_new _ _
  have hb1 : Below w.heap.size w W1 := by rw [← hW1]; exact below_alloc (Below.refl _ _) _
  have C := rmade_own (W1.alloc (.cells (nums .u32 [v % 4294967296, v / 4294967296]).toArray 123)) (some ⟨W1.heap.size, 0, none⟩) 2 [v % 4294967296, v / 4294967296] (limbs v) (reads_blk (heap_alloc_new _ _) 2 (by simp) (by omega)) (by simp) (by simp) hl.1
  rw [show [v % 4294967296, v / 4294967296].length = 2 from rfl, hs1] at C
  rw [← hW1] at C hb1 hg4
  have HC := Aside0.mk C
  have HB1 := Aside0.mk hb1
  have HG4 := Aside0.mk hg4
  obtain ⟨L, hL⟩ : ∃ L, limbs v = L := ⟨_, rfl⟩
  rw [hL] at HC ⊢
  clear hl C hb1 hg4 hW1 hs1 hL
  go_enter Try.func110, Try.ntmps110
  go_wp2_with fail
  refine HC.out.mono ?_
  rintro e w1 ⟨u, rfl, hR, hb1⟩
  obtain ⟨A', c', rfl⟩ := Kd.R_slice hR
  have HR1 := Aside0.mk hR
  have h4 := (hb1.block w.heap.size (by simp; omega)).trans (blk_alloc HG4.out _)
  have HB := Aside0.mk (below_step (below_alloc HB1.out _) hb1)
  have hh4 := blk_alloc h4 (.cells #[.bool false, .slice A' L.length c'] 42)
  obtain ⟨c20, c21, f20, f21⟩ := two_cells hh4
  have H4 := Aside0.mk h4
  clear hR hb1 HC HG4 h4 hh4
  go_wp2_with fail
  have hh := blk_alloc H4.out (.cells #[.bool false, .slice A' L.length c'] 42)
  refine bodyPost_ret (results_cell_row rfl _ _ w.heap.size 42 #[.bool false, .slice A' L.length c'] (0, 0) _ rfl (two_put hh) Try.underlying42 rfl (by kernel_rfl)) rfl ?_
  refine ⟨_, rfl, ?_, below_set (below_set (below_alloc HB.out _) (Nat.le_refl _)) (Nat.le_refl _)⟩
  have q := Kd.R_types (Kd.R_alloc HR1.out (.cells #[.bool false, .slice A' L.length c'] 42)) hh (by decide)
  exact Kd.R_mono (Kd.R_lower (Kd.R_far (p := ⟨w.heap.size, 1, none⟩) (Kd.R_far (p := ⟨w.heap.size, 0, none⟩) q (fun _ hk => hk.2) _) (fun _ hk => hk.2) _) (by simp; omega)) (fun _ _ => trivial)
def relictref02_Of.f (k : Nat) (a0 : Int) : Option (Bool × List Int) := if 0 ≤ a0 then (if a0 < 9223372036854775808 then some (false, Go.Proofs.YthdmacdeefohkaaLeaf.limbs a0) else none) else none
theorem relictref02_Of.mono : ∀ a0 k, LeO (relictref02_Of.f k a0) (relictref02_Of.f (k + 1) a0) := fun a0 k => by unfold relictref02_Of.f; exact LeO.refl _
theorem relictref02_Of.calls (k : Nat) (a0 : Int) (r1 : Bool) (r2 : List Int) (w : World) (h : relictref02_Of.f k a0 = some (r1, r2)) :
    Calls Try.prog 110 #[.int .i64 a0] w fun e w' => ∃ v1_ : Value, e = .returned (.agg #[.bool r1, v1_]) ∧ Kd.R (Kd.int .u32) 123 w' w.heap.size (fun _ => True) v1_ r2 ∧ Below w.heap.size w w' := by
  unfold relictref02_Of.f at h
  split at h
  · split at h
    · simp only [Option.some.injEq, Prod.mk.injEq] at h
      obtain ⟨rfl, rfl⟩ := h
      exact rof_own w a0 (by assumption) (by assumption)
    · cases h
  · cases h


end Go.Proofs.Ythdmacdeefohkaa.PMa
