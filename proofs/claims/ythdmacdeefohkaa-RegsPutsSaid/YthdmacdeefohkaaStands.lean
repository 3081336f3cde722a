/- What stands in a source. -/
import Derived.Test.YthdmacdeefohkaaRegs
namespace Go.Proofs.YthdmacdeefohkaaStands
open Go.RowKit Go.Proofs.YthdmacdeefohkaaW.PrintWords Go.Proofs.YthdmacdeefohkaaW.PrintLast Go.Proofs.YthdmacdeefohkaaW.PrintMore Go.Proofs.YthdmacdeefohkaaMem Go.Proofs.YthdmacdeefohkaaLeaf Go.Proofs.YthdmacdeefohkaaBits Go.Proofs.Ythdmacdeefohkaa.PMa Go.Proofs.YthdmacdeefohkaaMTerm Go.Proofs.YthdmacdeefohkaaMVal Go.Proofs.YthdmacdeefohkaaIntT Go.Proofs.YthdmacdeefohkaaRegs Go.Proofs
set_option linter.unusedVariables false
set_option linter.unusedSimpArgs false
def zeroT : Array Value := #[.int .i64 0, .bool false, .slice none 0 0, .string ⟨#[]⟩, .int .i64 0, .slice none 0 0]
/-- The four boxes of a call of stands. -/
structure Four (w W : World) (cs ms ar : Array Value) : Prop where
  b0 : W.heap[w.heap.size]? = some (.cells cs 70 (0, 0))
  b1 : W.heap[w.heap.size + 1]? = some (.cells ms 66 (0, 0))
  b2 : W.heap[w.heap.size + 2]? = some (.cells ar 77 (0, 0))
  b3 : W.heap[w.heap.size + 3]? = some (.cells zeroT 45 (0, 0))
  be : Below w.heap.size w W
theorem Four.mk' (w : World) (cs ms ar : Array Value) : Four w ((((w.alloc (.cells cs 70)).alloc (.cells ms 66)).alloc (.cells ar 77)).alloc (.cells zeroT 45)) cs ms ar := by
  refine ⟨?_, ?_, ?_, ?_, ?_⟩
  · exact blk_alloc (blk_alloc (blk_alloc (heap_alloc_new _ _) _) _) _
  · have := heap_alloc_new (w.alloc (.cells cs 70)) (.cells ms 66)
    rw [show (w.alloc (.cells cs 70)).heap.size = w.heap.size + 1 by simp] at this
    exact blk_alloc (blk_alloc this _) _
  · have := heap_alloc_new ((w.alloc (.cells cs 70)).alloc (.cells ms 66)) (.cells ar 77)
    rw [show ((w.alloc (.cells cs 70)).alloc (.cells ms 66)).heap.size = w.heap.size + 2 by simp] at this
    exact blk_alloc this _
  · have := heap_alloc_new (((w.alloc (.cells cs 70)).alloc (.cells ms 66)).alloc (.cells ar 77)) (.cells zeroT 45)
    rw [show (((w.alloc (.cells cs 70)).alloc (.cells ms 66)).alloc (.cells ar 77)).heap.size = w.heap.size + 3 by simp] at this
    exact this
  · exact below_alloc (below_alloc (below_alloc (below_alloc (Below.refl _ _) _) _) _) _
theorem below_six {w W : World} {g : Nat} {a b c d e f : Value} (h : Below w.heap.size w W) (hg : w.heap.size ≤ g) : Below w.heap.size w ((((((W.setCell ⟨g, 0, none⟩ a).setCell ⟨g, 1, none⟩ b).setCell ⟨g, 2, none⟩ c).setCell ⟨g, 3, none⟩ d).setCell ⟨g, 4, none⟩ e).setCell ⟨g, 5, none⟩ f) :=
  below_set (below_set (below_set (below_set (below_set (below_set h hg) hg) hg) hg) hg) hg
set_option maxHeartbeats 4000000 in
set_option maxRecDepth 100000 in
theorem stands_X (w : World) (cs ms : Array Value) (N : Int) (ra : Value) (x : S45) (A2 : Option Addr) (c2 : Nat) (A5 : Option Addr) (c5 : Nat) (hX : ∀ W g, W.heap[g]? = some (.cells cs 70 (0, 0)) → Below w.heap.size w W → At W (some ⟨g, 0, none⟩) 16 N x A2 c2 A5 c5) :
    Calls Try.prog 98 #[.agg cs, .agg ms, .agg #[.int .i64 3, .int .i64 N, ra]] w fun e w' => e = .returned (.agg (cellsT x A2 c2 A5 c5)) ∧ Below w.heap.size w w' := by
  have hu45 := Try.underlying45
  have hu70 := Try.underlying70
  have hu66 := Try.underlying66
  have hu77 := Try.underlying77
  have hu67 := Try.underlying67
  have F := Four.mk' w cs ms #[.int .i64 3, .int .i64 N, ra]
  obtain ⟨W, hW⟩ : ∃ W, (((w.alloc (.cells cs 70)).alloc (.cells ms 66)).alloc (.cells #[.int .i64 3, .int .i64 N, ra] 77)).alloc (.cells zeroT 45) = W := ⟨_, rfl⟩
  rw [hW] at F
  unfold zeroT at hW
  obtain ⟨g, hg⟩ : ∃ g, w.heap.size = g := ⟨_, rfl⟩
  obtain ⟨gm, hgm⟩ : ∃ gm, g + 1 = gm := ⟨_, rfl⟩
  obtain ⟨ga, hga⟩ : ∃ ga, gm + 1 = ga := ⟨_, rfl⟩
  obtain ⟨gr, hgr⟩ : ∃ gr, ga + 1 = gr := ⟨_, rfl⟩
  have em : w.heap.size + 1 = gm := by omega
  have ea : w.heap.size + 2 = ga := by omega
  have er : w.heap.size + 3 = gr := by omega
  have HEQ := Aside0.mk (show w.heap.size ≤ gr by omega)
  have F0 := F.b0
  have F1 := F.b1
  have F2 := F.b2
  have F3 := F.b3
  have FE := F.be
  rw [hg] at F0
  rw [em] at F1
  rw [ea] at F2
  rw [er] at F3
  have t0 : W.cell? ⟨ga, 0, none⟩ = some (.int .i64 3) := (blk_cell F2 0).trans rfl
  have t1 : W.cell? ⟨ga, 1, none⟩ = some (.int .i64 N) := (blk_cell F2 1).trans rfl
  clear em ea er F
  have HC := Aside0.mk (in_calls W (some ⟨g, 0, none⟩) 16 16 ga N x A2 c2 A5 c5 (hX W _ F0 FE) (by omega) t1)
  clear hX
  have HF0 := Aside0.mk F0
  have HF3 := Aside0.mk F3
  have HB := Aside0.mk FE
  clear F0 F1 F2 F3 FE
  go_enter Try.func98, Try.ntmps98
  go_wp2_with fail
  refine HC.out.mono ?_
  rintro e wb ⟨rfl, hb⟩
  have h3 := (hb.block _ (blk_lt HF3.out)).trans HF3.out
  have HB2 := Aside0.mk (below_step HB.out hb)
  obtain ⟨b0, b1, b2, b3, b4, b5⟩ := six_cells h3
  obtain ⟨f0, f1, f2, f3, f4, f5⟩ := six_live h3
  have H3 := Aside0.mk h3
  clear hb HC h3 t0 t1 hW
  unfold cellsT
  go_wp2_with fail
  refine bodyPost_ret (results_cell_row rfl _ _ gr 45 (cellsT x A2 c2 A5 c5) (0, 0) _ rfl (six_put H3.out) Try.underlying45 rfl (by kernel_rfl)) rfl ?_
  exact ⟨rfl, below_six HB2.out HEQ.out⟩
set_option maxHeartbeats 4000000 in
set_option maxRecDepth 100000 in
theorem stands_L (w : World) (cs ms : Array Value) (N : Int) (ra : Value) (x : S45) (A2 : Option Addr) (c2 : Nat) (A5 : Option Addr) (c5 : Nat) (L : Option Addr) (ln lc : Nat) (hms : ms[4]? = some (.slice L ln lc)) (hln : ln ≤ 1000000) (hX : At w L ln N x A2 c2 A5 c5) :
    Calls Try.prog 98 #[.agg cs, .agg ms, .agg #[.int .i64 6, .int .i64 N, ra]] w fun e w' => e = .returned (.agg (cellsT x A2 c2 A5 c5)) ∧ Below w.heap.size w w' := by
  have hu45 := Try.underlying45
  have hu70 := Try.underlying70
  have hu66 := Try.underlying66
  have hu77 := Try.underlying77
  have hu67 := Try.underlying67
  have F := Four.mk' w cs ms #[.int .i64 6, .int .i64 N, ra]
  obtain ⟨W, hW⟩ : ∃ W, (((w.alloc (.cells cs 70)).alloc (.cells ms 66)).alloc (.cells #[.int .i64 6, .int .i64 N, ra] 77)).alloc (.cells zeroT 45) = W := ⟨_, rfl⟩
  rw [hW] at F
  unfold zeroT at hW
  obtain ⟨g, hg⟩ : ∃ g, w.heap.size = g := ⟨_, rfl⟩
  obtain ⟨gm, hgm⟩ : ∃ gm, g + 1 = gm := ⟨_, rfl⟩
  obtain ⟨ga, hga⟩ : ∃ ga, gm + 1 = ga := ⟨_, rfl⟩
  obtain ⟨gr, hgr⟩ : ∃ gr, ga + 1 = gr := ⟨_, rfl⟩
  have em : w.heap.size + 1 = gm := by omega
  have ea : w.heap.size + 2 = ga := by omega
  have er : w.heap.size + 3 = gr := by omega
  have HEQ := Aside0.mk (show w.heap.size ≤ gr by omega)
  have F0 := F.b0
  have F1 := F.b1
  have F2 := F.b2
  have F3 := F.b3
  have FE := F.be
  rw [hg] at F0
  rw [em] at F1
  rw [ea] at F2
  rw [er] at F3
  have t0 : W.cell? ⟨ga, 0, none⟩ = some (.int .i64 6) := (blk_cell F2 0).trans rfl
  have t1 : W.cell? ⟨ga, 1, none⟩ = some (.int .i64 N) := (blk_cell F2 1).trans rfl
  clear em ea er F
  have m4 : W.cell? ⟨gm, 4, none⟩ = some (.slice L ln lc) := (blk_cell F1 4).trans hms
  have HC := Aside0.mk (in_calls W L ln lc ga N x A2 c2 A5 c5 (hX.below FE) hln t1)
  clear hX hms
  have HF0 := Aside0.mk F0
  have HF3 := Aside0.mk F3
  have HB := Aside0.mk FE
  clear F0 F1 F2 F3 FE
  go_enter Try.func98, Try.ntmps98
  go_wp2_with fail
  refine HC.out.mono ?_
  rintro e wb ⟨rfl, hb⟩
  have h3 := (hb.block _ (blk_lt HF3.out)).trans HF3.out
  have HB2 := Aside0.mk (below_step HB.out hb)
  obtain ⟨b0, b1, b2, b3, b4, b5⟩ := six_cells h3
  obtain ⟨f0, f1, f2, f3, f4, f5⟩ := six_live h3
  have H3 := Aside0.mk h3
  clear hb HC h3 t0 t1 m4 hW
  unfold cellsT
  go_wp2_with fail
  refine bodyPost_ret (results_cell_row rfl _ _ gr 45 (cellsT x A2 c2 A5 c5) (0, 0) _ rfl (six_put H3.out) Try.underlying45 rfl (by kernel_rfl)) rfl ?_
  exact ⟨rfl, below_six HB2.out HEQ.out⟩
set_option maxHeartbeats 4000000 in
set_option maxRecDepth 100000 in
theorem stands_I (w : World) (cs ms : Array Value) (N : Int) (ra : Value) (h0 : -9223372036854775808 ≤ N) (h1 : N < 9223372036854775808) :
    Calls Try.prog 98 #[.agg cs, .agg ms, .agg #[.int .i64 1, .int .i64 N, ra]] w fun e w' => ∃ A2 c2, e = .returned (.agg (cellsT (intT N) A2 c2 none 0)) ∧ Kd.R (Kd.int .u32) 123 w' w.heap.size (fun _ => True) (.slice A2 (absL N).length c2) (absL N) ∧ Below w.heap.size w w' := by
  have hu45 := Try.underlying45
  have hu70 := Try.underlying70
  have hu66 := Try.underlying66
  have hu77 := Try.underlying77
  have hu67 := Try.underlying67
  have F := Four.mk' w cs ms #[.int .i64 1, .int .i64 N, ra]
  obtain ⟨W, hW⟩ : ∃ W, (((w.alloc (.cells cs 70)).alloc (.cells ms 66)).alloc (.cells #[.int .i64 1, .int .i64 N, ra] 77)).alloc (.cells zeroT 45) = W := ⟨_, rfl⟩
  rw [hW] at F
  unfold zeroT at hW
  obtain ⟨g, hg⟩ : ∃ g, w.heap.size = g := ⟨_, rfl⟩
  obtain ⟨gm, hgm⟩ : ∃ gm, g + 1 = gm := ⟨_, rfl⟩
  obtain ⟨ga, hga⟩ : ∃ ga, gm + 1 = ga := ⟨_, rfl⟩
  obtain ⟨gr, hgr⟩ : ∃ gr, ga + 1 = gr := ⟨_, rfl⟩
  have em : w.heap.size + 1 = gm := by omega
  have ea : w.heap.size + 2 = ga := by omega
  have er : w.heap.size + 3 = gr := by omega
  have HEQ := Aside0.mk (show w.heap.size ≤ gr by omega)
  have F0 := F.b0
  have F1 := F.b1
  have F2 := F.b2
  have F3 := F.b3
  have FE := F.be
  rw [hg] at F0
  rw [em] at F1
  rw [ea] at F2
  rw [er] at F3
  have t0 : W.cell? ⟨ga, 0, none⟩ = some (.int .i64 1) := (blk_cell F2 0).trans rfl
  have t1 : W.cell? ⟨ga, 1, none⟩ = some (.int .i64 N) := (blk_cell F2 1).trans rfl
  clear em ea er F
  have HC := Aside0.mk (of_any W N h0 h1)
  have HSW := Aside0.mk FE.size
  have HF0 := Aside0.mk F0
  have HF3 := Aside0.mk F3
  have HB := Aside0.mk FE
  clear F0 F1 F2 F3 FE
  go_enter Try.func98, Try.ntmps98
  go_wp2_with fail
  refine HC.out.mono ?_
  rintro e wb ⟨u, rfl, hR, hb⟩
  obtain ⟨A2, c2, rfl⟩ := Kd.R_slice hR
  have HR := Aside0.mk hR
  have h3 := (hb.block _ (blk_lt HF3.out)).trans HF3.out
  have HB2 := Aside0.mk (below_step HB.out hb)
  obtain ⟨b0, b1, b2, b3, b4, b5⟩ := six_cells h3
  obtain ⟨f0, f1, f2, f3, f4, f5⟩ := six_live h3
  have H3 := Aside0.mk h3
  clear hb HC h3 t0 t1 hW hR
  go_wp2_with fail
  refine bodyPost_ret (results_cell_row rfl _ _ gr 45 #[.int .i64 1, .bool (decide (N < 0)), .slice A2 (absL N).length c2, .string ⟨#[]⟩, .int .i64 0, .slice none 0 0] (0, 0) _ rfl (six_put H3.out) Try.underlying45 rfl (by kernel_rfl)) rfl ?_
  refine ⟨A2, c2, rfl, ?_, below_six HB2.out HEQ.out⟩
  have q := R_six (a := .int .i64 1) (b := .bool (decide (N < 0))) (c := .slice A2 (absL N).length c2) (x := .string ⟨#[]⟩) (y := .int .i64 0) (z := .slice none 0 0) HR.out H3.out (by decide)
  exact Kd.R_mono (Kd.R_lower q HSW.out) (fun _ _ => trivial)
set_option maxHeartbeats 4000000 in
set_option maxRecDepth 100000 in
theorem stands_A0 (w : World) (cs ms : Array Value) (N : Int) (ra : Value) (hN : N = 0) :
    Calls Try.prog 98 #[.agg cs, .agg ms, .agg #[.int .i64 2, .int .i64 N, ra]] w fun e w' => e = .returned (.agg (cellsT ⟨3, ⟨false, []⟩, ⟨#[]⟩, 0, []⟩ none 0 none 0)) ∧ Below w.heap.size w w' := by
  have hu45 := Try.underlying45
  have hu70 := Try.underlying70
  have hu66 := Try.underlying66
  have hu77 := Try.underlying77
  have hu67 := Try.underlying67
  have F := Four.mk' w cs ms #[.int .i64 2, .int .i64 N, ra]
  obtain ⟨W, hW⟩ : ∃ W, (((w.alloc (.cells cs 70)).alloc (.cells ms 66)).alloc (.cells #[.int .i64 2, .int .i64 N, ra] 77)).alloc (.cells zeroT 45) = W := ⟨_, rfl⟩
  rw [hW] at F
  unfold zeroT at hW
  obtain ⟨g, hg⟩ : ∃ g, w.heap.size = g := ⟨_, rfl⟩
  obtain ⟨gm, hgm⟩ : ∃ gm, g + 1 = gm := ⟨_, rfl⟩
  obtain ⟨ga, hga⟩ : ∃ ga, gm + 1 = ga := ⟨_, rfl⟩
  obtain ⟨gr, hgr⟩ : ∃ gr, ga + 1 = gr := ⟨_, rfl⟩
  have em : w.heap.size + 1 = gm := by omega
  have ea : w.heap.size + 2 = ga := by omega
  have er : w.heap.size + 3 = gr := by omega
  have HEQ := Aside0.mk (show w.heap.size ≤ gr by omega)
  have F0 := F.b0
  have F1 := F.b1
  have F2 := F.b2
  have F3 := F.b3
  have FE := F.be
  rw [hg] at F0
  rw [em] at F1
  rw [ea] at F2
  rw [er] at F3
  have t0 : W.cell? ⟨ga, 0, none⟩ = some (.int .i64 2) := (blk_cell F2 0).trans rfl
  have t1 : W.cell? ⟨ga, 1, none⟩ = some (.int .i64 N) := (blk_cell F2 1).trans rfl
  clear em ea er F
  subst hN
  obtain ⟨b0, b1, b2, b3, b4, b5⟩ := six_cells F3
  obtain ⟨f0, f1, f2, f3, f4, f5⟩ := six_live F3
  have HF0 := Aside0.mk F0
  have HF3 := Aside0.mk F3
  have HB := Aside0.mk FE
  clear F0 F1 F2 F3 FE
  go_enter Try.func98, Try.ntmps98
  go_wp2_with fail
  refine bodyPost_ret (results_cell_row rfl _ _ gr 45 (cellsT ⟨3, ⟨false, []⟩, ⟨#[]⟩, 0, []⟩ none 0 none 0) (0, 0) _ rfl (six_put HF3.out) Try.underlying45 rfl (by kernel_rfl)) rfl ?_
  exact ⟨rfl, below_six HB.out HEQ.out⟩
set_option maxHeartbeats 4000000 in
set_option maxRecDepth 100000 in
theorem stands_A (w : World) (cs ms : Array Value) (N : Int) (ra : Value) (m : Nat) (hN : N = ((m + 1 : Nat) : Int)) (s : ByteArray) (ad : Addr) (an ac : Nat) (hms : ms[0]? = some (.slice (some ad) an ac)) (hm : m < an) (han : an ≤ 1000000) (hs : w.cell? (ad.add m) = some (.string s)) :
    Calls Try.prog 98 #[.agg cs, .agg ms, .agg #[.int .i64 2, .int .i64 N, ra]] w fun e w' => e = .returned (.agg (cellsT ⟨2, ⟨false, []⟩, s, 0, []⟩ none 0 none 0)) ∧ Below w.heap.size w w' := by
  have hu45 := Try.underlying45
  have hu70 := Try.underlying70
  have hu66 := Try.underlying66
  have hu77 := Try.underlying77
  have hu67 := Try.underlying67
  have F := Four.mk' w cs ms #[.int .i64 2, .int .i64 N, ra]
  obtain ⟨W, hW⟩ : ∃ W, (((w.alloc (.cells cs 70)).alloc (.cells ms 66)).alloc (.cells #[.int .i64 2, .int .i64 N, ra] 77)).alloc (.cells zeroT 45) = W := ⟨_, rfl⟩
  rw [hW] at F
  unfold zeroT at hW
  obtain ⟨g, hg⟩ : ∃ g, w.heap.size = g := ⟨_, rfl⟩
  obtain ⟨gm, hgm⟩ : ∃ gm, g + 1 = gm := ⟨_, rfl⟩
  obtain ⟨ga, hga⟩ : ∃ ga, gm + 1 = ga := ⟨_, rfl⟩
  obtain ⟨gr, hgr⟩ : ∃ gr, ga + 1 = gr := ⟨_, rfl⟩
  have em : w.heap.size + 1 = gm := by omega
  have ea : w.heap.size + 2 = ga := by omega
  have er : w.heap.size + 3 = gr := by omega
  have HEQ := Aside0.mk (show w.heap.size ≤ gr by omega)
  have F0 := F.b0
  have F1 := F.b1
  have F2 := F.b2
  have F3 := F.b3
  have FE := F.be
  rw [hg] at F0
  rw [em] at F1
  rw [ea] at F2
  rw [er] at F3
  have t0 : W.cell? ⟨ga, 0, none⟩ = some (.int .i64 2) := (blk_cell F2 0).trans rfl
  have t1 : W.cell? ⟨ga, 1, none⟩ = some (.int .i64 N) := (blk_cell F2 1).trans rfl
  clear em ea er F
  have m0 : W.cell? ⟨gm, 0, none⟩ = some (.slice (some ad) an ac) := (blk_cell F1 0).trans hms
  have cs0 := pw_cell_below FE hs
  obtain ⟨b0, b1, b2, b3, b4, b5⟩ := six_cells F3
  obtain ⟨f0, f1, f2, f3, f4, f5⟩ := six_live F3
  have n1 : (N == 0) = false := by rw [beq_eq_false_iff_ne]; omega
  have n2 : ¬ N = 0 := by omega
  have n3 : N > 0 := by omega
  have n4 : N ≤ (an : Int) := by omega
  have n5 : IntKind.i64.wrap (N - 1) = (m : Int) := by rw [IntKind.wrap_i64]; omega
  have n6 : (m : Int) < (an : Int) := by omega
  clear hs hms hN
  have HF0 := Aside0.mk F0
  have HF3 := Aside0.mk F3
  have HB := Aside0.mk FE
  clear F0 F1 F2 F3 FE
  go_enter Try.func98, Try.ntmps98
  go_wp2_with fail
  refine bodyPost_ret (results_cell_row rfl _ _ gr 45 (cellsT ⟨2, ⟨false, []⟩, s, 0, []⟩ none 0 none 0) (0, 0) _ rfl (six_put HF3.out) Try.underlying45 rfl (by kernel_rfl)) rfl ?_
  exact ⟨rfl, below_six HB.out HEQ.out⟩
set_option maxHeartbeats 4000000 in
set_option maxRecDepth 100000 in
theorem stands_Ano (w : World) (cs ms : Array Value) (N : Int) (ra : Value) (ad : Option Addr) (an ac : Nat) (hms : ms[0]? = some (.slice ad an ac)) (hN : N < 0 ∨ (an : Int) < N) :
    Calls Try.prog 98 #[.agg cs, .agg ms, .agg #[.int .i64 2, .int .i64 N, ra]] w fun e w' => e = .returned (.agg (cellsT z45 none 0 none 0)) ∧ Below w.heap.size w w' := by
  have hu45 := Try.underlying45
  have hu70 := Try.underlying70
  have hu66 := Try.underlying66
  have hu77 := Try.underlying77
  have hu67 := Try.underlying67
  have F := Four.mk' w cs ms #[.int .i64 2, .int .i64 N, ra]
  obtain ⟨W, hW⟩ : ∃ W, (((w.alloc (.cells cs 70)).alloc (.cells ms 66)).alloc (.cells #[.int .i64 2, .int .i64 N, ra] 77)).alloc (.cells zeroT 45) = W := ⟨_, rfl⟩
  rw [hW] at F
  unfold zeroT at hW
  obtain ⟨g, hg⟩ : ∃ g, w.heap.size = g := ⟨_, rfl⟩
  obtain ⟨gm, hgm⟩ : ∃ gm, g + 1 = gm := ⟨_, rfl⟩
  obtain ⟨ga, hga⟩ : ∃ ga, gm + 1 = ga := ⟨_, rfl⟩
  obtain ⟨gr, hgr⟩ : ∃ gr, ga + 1 = gr := ⟨_, rfl⟩
  have em : w.heap.size + 1 = gm := by omega
  have ea : w.heap.size + 2 = ga := by omega
  have er : w.heap.size + 3 = gr := by omega
  have HEQ := Aside0.mk (show w.heap.size ≤ gr by omega)
  have F0 := F.b0
  have F1 := F.b1
  have F2 := F.b2
  have F3 := F.b3
  have FE := F.be
  rw [hg] at F0
  rw [em] at F1
  rw [ea] at F2
  rw [er] at F3
  have t0 : W.cell? ⟨ga, 0, none⟩ = some (.int .i64 2) := (blk_cell F2 0).trans rfl
  have t1 : W.cell? ⟨ga, 1, none⟩ = some (.int .i64 N) := (blk_cell F2 1).trans rfl
  clear em ea er F
  have m0 : W.cell? ⟨gm, 0, none⟩ = some (.slice ad an ac) := (blk_cell F1 0).trans hms
  obtain ⟨b0, b1, b2, b3, b4, b5⟩ := six_cells F3
  obtain ⟨f0, f1, f2, f3, f4, f5⟩ := six_live F3
  have n1 : (N == 0) = false := by rw [beq_eq_false_iff_ne]; omega
  have n2 : ¬ N = 0 := by omega
  have hor : ¬ N > 0 ∨ (N > 0 ∧ ¬ N ≤ (an : Int)) := by omega
  have HF0 := Aside0.mk F0
  have HF3 := Aside0.mk F3
  have HB := Aside0.mk FE
  clear F0 F1 F2 F3 FE hms hN
  rcases hor with n3 | ⟨n3, n4⟩
  all_goals
    go_enter Try.func98, Try.ntmps98
    go_wp2_with fail
    refine bodyPost_ret (results_cell_row rfl _ _ gr 45 (cellsT z45 none 0 none 0) (0, 0) _ rfl (six_put HF3.out) Try.underlying45 rfl (by kernel_rfl)) rfl ?_
    exact ⟨rfl, by first | exact below_six HB.out HEQ.out | (rw [← hg]; exact below_six HB.out HEQ.out)⟩
set_option maxHeartbeats 4000000 in
set_option maxRecDepth 100000 in
theorem stands_Y (w : World) (cs ms : Array Value) (N : Int) (ra : Value) (x : S45) (A2 : Option Addr) (c2 : Nat) (A5 : Option Addr) (c5 : Nat) (hsz : cs.size = 101) (F0_ : Option Addr) (fl fc : Nat) (fr : Bool) (Y : Option Addr) (yl yc : Nat) (q0 : cs[96]? = some (.slice F0_ fl fc)) (q1 : cs[97]? = some (.bool fr)) (hfl : fl ≤ 1000000) (hyl : yl ≤ 1000000) (hr : ((fr = false ∨ fl = 0) ∧ Value.slice Y yl yc = .slice none 0 0) ∨ (fr = true ∧ 0 < fl ∧ ∃ f, F0_ = some f ∧ w.cell? ⟨(f.add ((fl - 1) * 2)).block, (f.add ((fl - 1) * 2)).off + 1, none⟩ = some (.slice Y yl yc))) (hX : At w Y yl N x A2 c2 A5 c5) :
    Calls Try.prog 98 #[.agg cs, .agg ms, .agg #[.int .i64 4, .int .i64 N, ra]] w fun e w' => e = .returned (.agg (cellsT x A2 c2 A5 c5)) ∧ Below w.heap.size w w' := by
  have hu45 := Try.underlying45
  have hu70 := Try.underlying70
  have hu66 := Try.underlying66
  have hu77 := Try.underlying77
  have hu67 := Try.underlying67
  have F := Four.mk' w cs ms #[.int .i64 4, .int .i64 N, ra]
  obtain ⟨W, hW⟩ : ∃ W, (((w.alloc (.cells cs 70)).alloc (.cells ms 66)).alloc (.cells #[.int .i64 4, .int .i64 N, ra] 77)).alloc (.cells zeroT 45) = W := ⟨_, rfl⟩
  rw [hW] at F
  unfold zeroT at hW
  obtain ⟨g, hg⟩ : ∃ g, w.heap.size = g := ⟨_, rfl⟩
  obtain ⟨gm, hgm⟩ : ∃ gm, g + 1 = gm := ⟨_, rfl⟩
  obtain ⟨ga, hga⟩ : ∃ ga, gm + 1 = ga := ⟨_, rfl⟩
  obtain ⟨gr, hgr⟩ : ∃ gr, ga + 1 = gr := ⟨_, rfl⟩
  have em : w.heap.size + 1 = gm := by omega
  have ea : w.heap.size + 2 = ga := by omega
  have er : w.heap.size + 3 = gr := by omega
  have HEQ := Aside0.mk (show w.heap.size ≤ gr by omega)
  have F0 := F.b0
  have F1 := F.b1
  have F2 := F.b2
  have F3 := F.b3
  have FE := F.be
  rw [hg] at F0
  rw [em] at F1
  rw [ea] at F2
  rw [er] at F3
  have t0 : W.cell? ⟨ga, 0, none⟩ = some (.int .i64 4) := (blk_cell F2 0).trans rfl
  have t1 : W.cell? ⟨ga, 1, none⟩ = some (.int .i64 N) := (blk_cell F2 1).trans rfl
  clear em ea er F
  have HC := Aside0.mk (slots_calls W cs F0_ fl fc fr (.slice Y yl yc) q0 q1 hfl (by
    rcases hr with h | ⟨h1, h2, f, h3, h4⟩
    · exact .inl h
    · exact .inr ⟨h1, h2, f, h3, pw_cell_below FE h4⟩))
  have HX := Aside0.mk (hX.below FE)
  have HT1 := Aside0.mk t1
  have HSZ := Aside0.mk (show (Try.prog.info? 70).map (·.size) = some cs.size by rw [hsz]; kernel_rfl)
  clear hr hX q0 q1
  have HF0 := Aside0.mk F0
  have HF3 := Aside0.mk F3
  have HB := Aside0.mk FE
  clear F0 F1 F2 F3 FE
  go_enter Try.func98, Try.ntmps98
  go_wp2_with ((with_reducible refine wpList_load_row (o := ⟨some 20, _, _, _, _, _⟩) rfl 70 (.tmp 3) rfl g ?_ 70 cs (0, 0) _ HF0.out hu70 rfl HSZ.out ?_); rfl)
  refine HC.out.mono ?_
  rintro e wa ⟨rfl, hb⟩
  have HC2 := Aside0.mk (in_calls wa Y yl yc ga N x A2 c2 A5 c5 (HX.out.below hb) hyl (pw_cell_below hb HT1.out))
  have HF3 := Aside0.mk ((hb.block _ (blk_lt HF3.out)).trans HF3.out)
  have HB := Aside0.mk (below_step HB.out hb)
  clear hb HC HX t0 t1 hW HT1
  go_wp2_with fail
  refine HC2.out.mono ?_
  rintro e wb ⟨rfl, hb⟩
  have h3 := (hb.block _ (blk_lt HF3.out)).trans HF3.out
  have HB2 := Aside0.mk (below_step HB.out hb)
  obtain ⟨b0, b1, b2, b3, b4, b5⟩ := six_cells h3
  obtain ⟨f0, f1, f2, f3, f4, f5⟩ := six_live h3
  have H3 := Aside0.mk h3
  clear hb HC2 h3
  unfold cellsT
  go_wp2_with fail
  refine bodyPost_ret (results_cell_row rfl _ _ gr 45 (cellsT x A2 c2 A5 c5) (0, 0) _ rfl (six_put H3.out) Try.underlying45 rfl (by kernel_rfl)) rfl ?_
  exact ⟨rfl, below_six HB2.out HEQ.out⟩
end Go.Proofs.YthdmacdeefohkaaStands
