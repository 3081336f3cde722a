/- Numbers of either sign: made, Of of the program and of the document, I1. -/
import Derived.Test.YthdmacdeefohkaaPMa1
import Derived.Test.YthdmacdeefohkaaPMa3
namespace Go.Proofs.YthdmacdeefohkaaNumS
open Go.RowKit Go.Proofs.YthdmacdeefohkaaW.PrintWords Go.Proofs.YthdmacdeefohkaaW.PrintLast Go.Proofs.YthdmacdeefohkaaW.PrintMore Go.Proofs.YthdmacdeefohkaaMem Go.Proofs.YthdmacdeefohkaaLeaf Go.Proofs.YthdmacdeefohkaaBits Go.Proofs.Ythdmacdeefohkaa.PMa Go.Proofs
set_option linter.unusedVariables false
set_option linter.unusedSimpArgs false
theorem check_neg (neg : Bool) (xs : List Int) (hl : xs.length ≤ 12) (hn : neg = true → 0 < xs.length) (hz : 0 < xs.length → xs.getD (xs.length - 1) 0 ≠ 0) : num_Check.f neg xs = some true := by
  cases neg with
  | false => exact check_f xs hl hz
  | true =>
    have h0 := hn rfl
    unfold num_Check.f
    have e : wrap64 ((xs.length : Int) - 1) = ((xs.length - 1 : Nat) : Int) := by unfold wrap64; omega
    rw [if_pos (by omega), if_neg (by omega), if_pos (by omega), e, if_pos (by omega), if_pos (by omega)]
    have := hz h0
    unfold rd
    simpa using this
set_option maxHeartbeats 4000000 in
set_option maxRecDepth 100000 in
theorem made_neg (w : World) (A : Option Addr) (c : Nat) (xs ys : List Int) (hr : ReadsInt w .u32 A xs.length xs) (hc : xs.length ≤ c) (hm : xs.length ≤ 12) (hys : xs.take (keepN xs xs.length) = ys) (hneg : 0 < ys.length) :
    Calls Try.prog 113 #[.bool true, .slice A xs.length c] w fun e w' => ∃ v : Value, e = .returned (.tuple #[.agg #[.bool true, v], .bool true]) ∧ Kd.R (Kd.int .u32) 123 w' w.heap.size (fun k => k ≠ w.heap.size) v ys ∧ Below w.heap.size w w' := by
  have HC := Aside0.mk (norm_calls (w.alloc (.cells #[.bool false, .slice none 0 0] 42)) A c xs (hr.below (below_alloc (Below.refl _ w) _)) hc (by omega))
  rw [hys] at HC
  have hyl : ys.length ≤ 12 := by rw [← hys, List.length_take]; omega
  have HK := Aside0.mk (check_neg true ys hyl (fun _ => hneg) (by
    intro h0
    have hk := keepN_le xs xs.length
    have hl : ys.length = keepN xs xs.length := by rw [← hys, List.length_take]; omega
    have := keepN_last xs xs.length (Nat.le_refl _) (by omega)
    rw [hl, ← hys, List.getD_eq_getElem?_getD, List.getElem?_take, if_pos (by omega), ← List.getD_eq_getElem?_getD]
    exact this))
  obtain ⟨n, hn⟩ : ∃ n, xs.length = n := ⟨_, rfl⟩
  rw [hn] at HC hc hm ⊢
  clear hr hn hys
  have hd1 : (ys.length : Int) > 0 := by omega
  have hd2 : decide (0 < ys.length) = true := decide_eq_true hneg
  go_enter Try.func113, Try.ntmps113
  go_wp2_with fail
  refine HC.out.mono ?_
  rintro e w1 ⟨v, rfl, hR, hb1⟩
  obtain ⟨A', c', rfl, hcc, hC⟩ := Kd.R_reads hR
  have HR1 := Aside0.mk hR
  have h4 : w1.heap[w.heap.size]? = some (.cells #[.bool false, .slice none 0 0] 42 (0, 0)) := (hb1.block _ (by simp)).trans (heap_alloc_new _ _)
  have H4 := Aside0.mk h4
  have HB1 := Aside0.mk (below_step (below_alloc (Below.refl _ w) _) hb1)
  obtain ⟨c40, c41, f40, f41⟩ := two_cells h4
  have hb2 : Below w1.heap.size w1 (w1.alloc (.cells #[.bool true, .slice A' ys.length c'] 42)) := below_alloc (Below.refl _ w1) _
  have HC2 := Aside0.mk (num_Check.calls true A' c' ys true (w1.alloc (.cells #[.bool true, .slice A' ys.length c'] 42)) (Kd.C_below hC hb2) hcc HK.out)
  have HB2 := Aside0.mk hb2
  clear hR hb1 h4 HC hC hb2 HK
  go_wp2_with fail
  refine HC2.out.mono ?_
  rintro e w2 ⟨rfl, hb⟩
  have HR2 := Aside0.mk (Kd.R_below (Kd.R_below HR1.out HB2.out) hb)
  have HH4 := (hb.block _ (by have := HB1.out.size; simp; have := blk_lt H4.out; omega)).trans ((HB2.out.block _ (blk_lt H4.out)).trans H4.out)
  have HH6 := (hb.block _ (by simp)).trans (heap_alloc_new w1 (.cells #[.bool true, .slice A' ys.length c'] 42))
  have HB := Aside0.mk (HB1.out.trans (((below_alloc (Below.refl _ w1) _).trans (hb.mono (by simp))).mono HB1.out.size))
  clear hb HC2 H4 HB2 HR1 c40 c41 f40 f41
  obtain ⟨c40, c41, f40, f41⟩ := two_cells HH4
  obtain ⟨c60, c61, f60, f61⟩ := two_cells HH6
  have HH4 := Aside0.mk HH4
  go_wp2_with fail
  refine bodyPost_ret (results_ct rfl _ _ w.heap.size 42 #[.bool true, .slice A' ys.length c'] (0, 0) _ rfl (two_put HH4.out) Try.underlying42 rfl (by kernel_rfl)) rfl ?_
  refine ⟨_, rfl, ?_, below_set (below_set HB.out (Nat.le_refl _)) (Nat.le_refl _)⟩
  have q := Kd.R_types HR2.out HH4.out (by decide)
  exact Kd.R_mono (Kd.R_lower (Kd.R_far (p := ⟨w.heap.size, 1, none⟩) (Kd.R_far (p := ⟨w.heap.size, 0, none⟩) q (fun _ hk => hk.2) _) (fun _ hk => hk.2) _) (by simp)) (fun _ hk => hk.2)
set_option maxHeartbeats 4000000 in
set_option maxRecDepth 100000 in
theorem rmade_neg (w : World) (A : Option Addr) (c : Nat) (xs ys : List Int) (hr : ReadsInt w .u32 A xs.length xs) (hc : xs.length ≤ c) (hm : xs.length ≤ 12) (hys : xs.take (keepN xs xs.length) = ys) (hneg : 0 < ys.length) :
    Calls Try.prog 121 #[.bool true, .slice A xs.length c] w fun e w' => ∃ v : Value, e = .returned (.tuple #[.agg #[.bool true, v], .bool true]) ∧ Kd.R (Kd.int .u32) 123 w' w.heap.size (fun k => k ≠ w.heap.size) v ys ∧ Below w.heap.size w w' := by
  have HC := Aside0.mk (rnorm_calls (w.alloc (.cells #[.bool false, .slice none 0 0] 42)) A c xs (hr.below (below_alloc (Below.refl _ w) _)) hc (by omega))
  rw [hys] at HC
  have hyl : ys.length ≤ 12 := by rw [← hys, List.length_take]; omega
  obtain ⟨n, hn⟩ : ∃ n, xs.length = n := ⟨_, rfl⟩
  rw [hn] at HC hc hm ⊢
  clear hr hn hys
  have hy2 : ¬ (ys.length : Int) > 12 := by omega
  have hd1 : (ys.length : Int) > 0 := by omega
  have hd2 : decide (0 < ys.length) = true := decide_eq_true hneg
  go_enter Try.func121, Try.ntmps121
  go_wp2_with fail
  refine HC.out.mono ?_
  rintro e w1 ⟨v, rfl, hR, hb1⟩
  obtain ⟨A', c', rfl, hcc, hC⟩ := Kd.R_reads hR
  have HR1 := Aside0.mk hR
  have h4 : w1.heap[w.heap.size]? = some (.cells #[.bool false, .slice none 0 0] 42 (0, 0)) := (hb1.block _ (by simp)).trans (heap_alloc_new _ _)
  have H4 := Aside0.mk h4
  have HB1 := Aside0.mk (below_step (below_alloc (Below.refl _ w) _) hb1)
  obtain ⟨c40, c41, f40, f41⟩ := two_cells h4
  clear hR hb1 h4 HC hC
  go_wp2_with fail
  refine bodyPost_ret (results_ct rfl _ _ w.heap.size 42 #[.bool true, .slice A' ys.length c'] (0, 0) _ rfl (two_put H4.out) Try.underlying42 rfl (by kernel_rfl)) rfl ?_
  refine ⟨_, rfl, ?_, below_set (below_set HB1.out (Nat.le_refl _)) (Nat.le_refl _)⟩
  have q := Kd.R_types HR1.out H4.out (by decide)
  exact Kd.R_mono (Kd.R_lower (Kd.R_far (p := ⟨w.heap.size, 1, none⟩) (Kd.R_far (p := ⟨w.heap.size, 0, none⟩) q (fun _ hk => hk.2) _) (fun _ hk => hk.2) _) (by simp)) (fun _ hk => hk.2)
theorem limbs_pos (v : Int) (h : 0 < v) : 0 < (limbs v).length := by
  unfold limbs; rw [if_neg (by omega)]; split <;> simp
set_option maxHeartbeats 4000000 in
set_option maxRecDepth 100000 in
theorem of_neg (w : World) (v : Int) (h0 : 0 < v) (h1 : v ≤ 9223372036854775808) :
    Calls Try.prog 88 #[.int .i64 (-v)] w fun e w' => ∃ u : Value, e = .returned (.agg #[.bool true, u]) ∧ Kd.R (Kd.int .u32) 123 w' w.heap.size (fun _ => True) u (limbs v) ∧ Below w.heap.size w w' := by
  have e1 : IntKind.u64.wrap (-v) = 18446744073709551616 - v := by rw [wrap_u64]; omega
  have e0 : IntKind.u64.wrap (-(18446744073709551616 - v)) = v := by rw [wrap_u64]; omega
  have e5 : IntKind.u64.wrap (v - 18446744073709551616) = v := by rw [wrap_u64]; omega
  have e2 : -v < 0 := by omega
  have e6 : (0 : Int) < v := h0
  have e3 : IntKind.u32.wrap v = v % 4294967296 := by simp [IntKind.wrap, IntKind.bits, IntKind.signed]
  have e4 : IntKind.u32.wrap (v / 4294967296) = v / 4294967296 := by simp [IntKind.wrap, IntKind.bits, IntKind.signed]; omega
  have hl := limbs_of v (by omega)
  obtain ⟨W1, hW1⟩ : ∃ W1, w.alloc (.cells #[.bool false, .slice none 0 0] 42) = W1 := ⟨_, rfl⟩
  have hs1 : W1.heap.size = w.heap.size + 1 := by rw [← hW1]; simp
  have hg4 : W1.heap[w.heap.size]? = some (.cells #[.bool false, .slice none 0 0] 42 (0, 0)) := by rw [← hW1]; exact heap_alloc_new _ _
  have hb1 : Below w.heap.size w W1 := by rw [← hW1]; exact below_alloc (Below.refl _ _) _
  have C := made_neg (W1.alloc (.cells (nums .u32 [v % 4294967296, v / 4294967296]).toArray 123)) (some ⟨W1.heap.size, 0, none⟩) 2 [v % 4294967296, v / 4294967296] (limbs v) (reads_blk (heap_alloc_new _ _) 2 (by simp) (by omega)) (by simp) (by simp) hl.1 (limbs_pos v h0)
  rw [show [v % 4294967296, v / 4294967296].length = 2 from rfl, hs1] at C
  rw [← hW1] at C hb1 hg4
  have HC := Aside0.mk C
  have HB1 := Aside0.mk hb1
  have HG4 := Aside0.mk hg4
  obtain ⟨L, hL⟩ : ∃ L, limbs v = L := ⟨_, rfl⟩
  rw [hL] at HC ⊢
  clear hl C hb1 hg4 hW1 hs1 hL
  go_enter Try.func88, Try.ntmps88
  go_wp2_with fail
  refine HC.out.mono ?_
  rintro e w1 ⟨u, rfl, hR, hb1⟩
  obtain ⟨A', c', rfl⟩ := Kd.R_slice hR
  have HR1 := Aside0.mk hR
  have h4 := (hb1.block w.heap.size (by simp; omega)).trans (blk_alloc HG4.out _)
  have HB := Aside0.mk (below_step (below_alloc HB1.out _) hb1)
  have hh4 := blk_alloc h4 (.cells #[.bool true, .slice A' L.length c'] 42)
  obtain ⟨c20, c21, f20, f21⟩ := two_cells hh4
  have H4 := Aside0.mk h4
  clear hR hb1 HC HG4 h4 hh4
  go_wp2_with fail
  have hh := blk_alloc H4.out (.cells #[.bool true, .slice A' L.length c'] 42)
  refine bodyPost_ret (results_cell_row rfl _ _ w.heap.size 42 #[.bool true, .slice A' L.length c'] (0, 0) _ rfl (two_put hh) Try.underlying42 rfl (by kernel_rfl)) rfl ?_
  refine ⟨_, rfl, ?_, below_set (below_set (below_alloc HB.out _) (Nat.le_refl _)) (Nat.le_refl _)⟩
  have q := Kd.R_types (Kd.R_alloc HR1.out (.cells #[.bool true, .slice A' L.length c'] 42)) hh (by decide)
  exact Kd.R_mono (Kd.R_lower (Kd.R_far (p := ⟨w.heap.size, 1, none⟩) (Kd.R_far (p := ⟨w.heap.size, 0, none⟩) q (fun _ hk => hk.2) _) (fun _ hk => hk.2) _) (by simp; omega)) (fun _ _ => trivial)
set_option maxHeartbeats 4000000 in
set_option maxRecDepth 100000 in
theorem rof_neg (w : World) (v : Int) (h0 : 0 < v) (h1 : v ≤ 9223372036854775808) :
    Calls Try.prog 110 #[.int .i64 (-v)] w fun e w' => ∃ u : Value, e = .returned (.agg #[.bool true, u]) ∧ Kd.R (Kd.int .u32) 123 w' w.heap.size (fun _ => True) u (limbs v) ∧ Below w.heap.size w w' := by
  have e1 : IntKind.u64.wrap (-v) = 18446744073709551616 - v := by rw [wrap_u64]; omega
  have e0 : IntKind.u64.wrap (-(18446744073709551616 - v)) = v := by rw [wrap_u64]; omega
  have e5 : IntKind.u64.wrap (v - 18446744073709551616) = v := by rw [wrap_u64]; omega
  have e2 : -v < 0 := by omega
  have e6 : (0 : Int) < v := h0
  have e3 : IntKind.u32.wrap v = v % 4294967296 := by simp [IntKind.wrap, IntKind.bits, IntKind.signed]
  have e4 : IntKind.u32.wrap (v / 4294967296) = v / 4294967296 := by simp [IntKind.wrap, IntKind.bits, IntKind.signed]; omega
  have hl := limbs_of v (by omega)
  obtain ⟨W1, hW1⟩ : ∃ W1, w.alloc (.cells #[.bool false, .slice none 0 0] 42) = W1 := ⟨_, rfl⟩
  have hs1 : W1.heap.size = w.heap.size + 1 := by rw [← hW1]; simp
  have hg4 : W1.heap[w.heap.size]? = some (.cells #[.bool false, .slice none 0 0] 42 (0, 0)) := by rw [← hW1]; exact heap_alloc_new _ _
  have hb1 : Below w.heap.size w W1 := by rw [← hW1]; exact below_alloc (Below.refl _ _) _
  have C := rmade_neg (W1.alloc (.cells (nums .u32 [v % 4294967296, v / 4294967296]).toArray 123)) (some ⟨W1.heap.size, 0, none⟩) 2 [v % 4294967296, v / 4294967296] (limbs v) (reads_blk (heap_alloc_new _ _) 2 (by simp) (by omega)) (by simp) (by simp) hl.1 (limbs_pos v h0)
  rw [show [v % 4294967296, v / 4294967296].length = 2 from rfl, hs1] at C
  rw [← hW1] at C hb1 hg4
  have HC := Aside0.mk C
  have HB1 := Aside0.mk hb1
  have HG4 := Aside0.mk hg4
  obtain ⟨L, hL⟩ : ∃ L, limbs v = L := ⟨_, rfl⟩
  rw [hL] at HC ⊢
  clear hl C hb1 hg4 hW1 hs1 hL
  go_enter Try.func110, Try.ntmps110
  go_wp2_with fail
  refine HC.out.mono ?_
  rintro e w1 ⟨u, rfl, hR, hb1⟩
  obtain ⟨A', c', rfl⟩ := Kd.R_slice hR
  have HR1 := Aside0.mk hR
  have h4 := (hb1.block w.heap.size (by simp; omega)).trans (blk_alloc HG4.out _)
  have HB := Aside0.mk (below_step (below_alloc HB1.out _) hb1)
  have hh4 := blk_alloc h4 (.cells #[.bool true, .slice A' L.length c'] 42)
  obtain ⟨c20, c21, f20, f21⟩ := two_cells hh4
  have H4 := Aside0.mk h4
  clear hR hb1 HC HG4 h4 hh4
  go_wp2_with fail
  have hh := blk_alloc H4.out (.cells #[.bool true, .slice A' L.length c'] 42)
  refine bodyPost_ret (results_cell_row rfl _ _ w.heap.size 42 #[.bool true, .slice A' L.length c'] (0, 0) _ rfl (two_put hh) Try.underlying42 rfl (by kernel_rfl)) rfl ?_
  refine ⟨_, rfl, ?_, below_set (below_set (below_alloc HB.out _) (Nat.le_refl _)) (Nat.le_refl _)⟩
  have q := Kd.R_types (Kd.R_alloc HR1.out (.cells #[.bool true, .slice A' L.length c'] 42)) hh (by decide)
  exact Kd.R_mono (Kd.R_lower (Kd.R_far (p := ⟨w.heap.size, 1, none⟩) (Kd.R_far (p := ⟨w.heap.size, 0, none⟩) q (fun _ hk => hk.2) _) (fun _ hk => hk.2) _) (by simp; omega)) (fun _ _ => trivial)
end Go.Proofs.YthdmacdeefohkaaNumS
