/- Source: the term of a source. -/
import Derived.Test.YthdmacdeefohkaaStands
namespace Go.Proofs.YthdmacdeefohkaaSource
open Go.RowKit Go.Proofs.YthdmacdeefohkaaW.PrintWords Go.Proofs.YthdmacdeefohkaaW.PrintLast Go.Proofs.YthdmacdeefohkaaW.PrintMore Go.Proofs.YthdmacdeefohkaaMem Go.Proofs.YthdmacdeefohkaaLeaf Go.Proofs.YthdmacdeefohkaaBits Go.Proofs.Ythdmacdeefohkaa.PMa Go.Proofs.YthdmacdeefohkaaMTerm Go.Proofs.YthdmacdeefohkaaMVal Go.Proofs.YthdmacdeefohkaaIntT Go.Proofs.YthdmacdeefohkaaRegs Go.Proofs.YthdmacdeefohkaaStands Go.Proofs
set_option linter.unusedVariables false
set_option linter.unusedSimpArgs false
/-- What a program may have. -/
def plainB (x : S45) : Bool := decide (1 ≤ x.f0) && decide (x.f0 ≤ 7)
set_option maxHeartbeats 4000000 in
set_option maxRecDepth 100000 in
theorem plain_calls (w : World) (x : S45) (A2 : Option Addr) (c2 : Nat) (A5 : Option Addr) (c5 : Nat) :
    Calls Try.prog 72 #[.agg (cellsT x A2 c2 A5 c5)] w fun e w' => e = .returned (.bool (plainB x)) ∧ Below w.heap.size w w' := by
  have hu45 := Try.underlying45
  unfold plainB cellsT
  obtain ⟨k, hk⟩ : ∃ k, x.f0 = k := ⟨_, rfl⟩
  rw [hk]
  by_cases h1 : 1 ≤ k
  · have e1 : k ≥ 1 := h1
    go_enter Try.func72, Try.ntmps72
    go_wp2_with fail
    go_ret
    refine ⟨?_, below_alloc (Below.refl _ _) _⟩
    by_cases h2 : k ≤ 7 <;> simp [h1, h2]
  · have e1 : ¬ k ≥ 1 := h1
    go_enter Try.func72, Try.ntmps72
    go_wp2_with fail
    go_ret
    refine ⟨?_, below_alloc (Below.refl _ _) _⟩
    simp [h1]
    intro h; omega
theorem blk_far {w : World} {g g' : Nat} {c a b d e f x : _} (h : w.heap[g]? = some c) (hne : g < g') : ((((((w.setCell ⟨g', 0, none⟩ a).setCell ⟨g', 1, none⟩ b).setCell ⟨g', 2, none⟩ d).setCell ⟨g', 3, none⟩ e).setCell ⟨g', 4, none⟩ f).setCell ⟨g', 5, none⟩ x).heap[g]? = some c := by
  have hb : Below g' w ((((((w.setCell ⟨g', 0, none⟩ a).setCell ⟨g', 1, none⟩ b).setCell ⟨g', 2, none⟩ d).setCell ⟨g', 3, none⟩ e).setCell ⟨g', 4, none⟩ f).setCell ⟨g', 5, none⟩ x) :=
    have hg : g' ≤ g' := Nat.le_refl _
    ((((((Below.refl g' w).setCell hg _).setCell hg _).setCell hg _).setCell hg _).setCell hg _).setCell hg _
  exact (hb.block g hne).trans h
/-- What a source's cells stand for, whatever is made behind them and written into other terms' boxes. -/
structure Stays (K : World → Option Addr → Nat → Option Addr → Nat → Prop) : Prop where
  below : ∀ W W' a b c d, K W a b c d → Below W.heap.size W W' → K W' a b c d
  six : ∀ W g cs a b c d v0 v1 v2 v3 v4 v5, W.heap[g]? = some (.cells cs 45 (0, 0)) → K W a b c d → K ((((((W.setCell ⟨g, 0, none⟩ v0).setCell ⟨g, 1, none⟩ v1).setCell ⟨g, 2, none⟩ v2).setCell ⟨g, 3, none⟩ v3).setCell ⟨g, 4, none⟩ v4).setCell ⟨g, 5, none⟩ v5) a b c d
/-- What Source returns. -/
def Sourced (x : S45) (K : World → Option Addr → Nat → Option Addr → Nat → Prop) (w : World) (e : Ending) (w' : World) : Prop :=
  ∃ A2 c2 A5 c5, e = .returned (.tuple #[.agg (if plainB x then cellsT x A2 c2 A5 c5 else cellsT z45 none 0 none 0), .bool (plainB x)]) ∧ K w' A2 c2 A5 c5 ∧ Below w.heap.size w w'
set_option maxHeartbeats 4000000 in
set_option maxRecDepth 100000 in
theorem source_calls (w : World) (cs ms ar : Array Value) (hcs : cs.size = 101) (hms : ms.size = 6) (har : ar.size = 3) (x : S45) (K : World → Option Addr → Nat → Option Addr → Nat → Prop) (hK : Stays K)
    (HS : ∀ W, Below w.heap.size w W → Calls Try.prog 98 #[.agg cs, .agg ms, .agg ar] W fun e w' => ∃ A2 c2 A5 c5, e = .returned (.agg (cellsT x A2 c2 A5 c5)) ∧ K w' A2 c2 A5 c5 ∧ Below W.heap.size W w') :
    Calls Try.prog 47 #[.agg cs, .agg ms, .agg ar] w (Sourced x K w) := by
  have hu45 := Try.underlying45
  have hu70 := Try.underlying70
  have hu66 := Try.underlying66
  have hu77 := Try.underlying77
  have F := Four.mk' w cs ms ar
  obtain ⟨W, hW⟩ : ∃ W, (((w.alloc (.cells cs 70)).alloc (.cells ms 66)).alloc (.cells ar 77)).alloc (.cells zeroT 45) = W := ⟨_, rfl⟩
  rw [hW] at F
  unfold zeroT at hW
  obtain ⟨g, hg⟩ : ∃ g, w.heap.size = g := ⟨_, rfl⟩
  obtain ⟨gm, hgm⟩ : ∃ gm, g + 1 = gm := ⟨_, rfl⟩
  obtain ⟨ga, hga⟩ : ∃ ga, gm + 1 = ga := ⟨_, rfl⟩
  obtain ⟨gr, hgr⟩ : ∃ gr, ga + 1 = gr := ⟨_, rfl⟩
  have em : w.heap.size + 1 = gm := by omega
  have ea : w.heap.size + 2 = ga := by omega
  have er : w.heap.size + 3 = gr := by omega
  have HEQ := Aside0.mk (show w.heap.size ≤ gr by omega)
  have F0 := F.b0
  have F1 := F.b1
  have F2 := F.b2
  have F3 := F.b3
  have FE := F.be
  rw [hg] at F0
  rw [em] at F1
  rw [ea] at F2
  rw [er] at F3
  clear em ea er F
  have HC := Aside0.mk (HS W FE)
  have HKS := Aside0.mk hK
  clear HS hK
  have HF0 := Aside0.mk F0
  have HF1 := Aside0.mk F1
  have HF2 := Aside0.mk F2
  have HF3 := Aside0.mk F3
  have HB := Aside0.mk FE
  clear F0 F1 F2 F3 FE
  have HSZ := Aside0.mk (show (Try.prog.info? 70).map (·.size) = some cs.size by rw [hcs]; kernel_rfl)
  have HSM := Aside0.mk (show (Try.prog.info? 66).map (·.size) = some ms.size by rw [hms]; kernel_rfl)
  have HSA := Aside0.mk (show (Try.prog.info? 77).map (·.size) = some ar.size by rw [har]; kernel_rfl)
  go_enter Try.func47, Try.ntmps47
  go_wp2_with (first
    | ((with_reducible refine wpList_load_row (o := ⟨some 9, _, _, _, _, _⟩) rfl 70 (.tmp 3) rfl g ?_ 70 cs (0, 0) _ HF0.out hu70 rfl HSZ.out ?_); rfl)
    | ((with_reducible refine wpList_load_row (o := ⟨some 10, _, _, _, _, _⟩) rfl 66 (.tmp 4) rfl gm ?_ 66 ms (0, 0) _ HF1.out hu66 rfl HSM.out ?_); rfl)
    | ((with_reducible refine wpList_load_row (o := ⟨some 11, _, _, _, _, _⟩) rfl 77 (.tmp 5) rfl ga ?_ 77 ar (0, 0) _ HF2.out hu77 rfl HSA.out ?_); rfl))
  refine HC.out.mono ?_
  rintro e wa ⟨A2, c2, A5, c5, rfl, hk, hb⟩
  obtain ⟨g8, hg8⟩ : ∃ g8, wa.heap.size = g8 := ⟨_, rfl⟩
  obtain ⟨W2, hW2⟩ : ∃ W2, wa.alloc (.cells zeroT 45) = W2 := ⟨_, rfl⟩
  have hb2 : Below wa.heap.size wa W2 := by rw [← hW2]; exact below_alloc (Below.refl _ _) _
  have h8 : W2.heap[g8]? = some (.cells zeroT 45 (0, 0)) := by rw [← hW2, ← hg8]; exact heap_alloc_new _ _
  have h6a := (hb.block _ (blk_lt HF3.out)).trans HF3.out
  have hne : gr < g8 := by have := blk_lt h6a; omega
  have h6 := (hb2.block _ (blk_lt h6a)).trans h6a
  have hk2 := HKS.out.below _ _ _ _ _ _ hk hb2
  have HBW := Aside0.mk (below_step (below_step HB.out hb) hb2)
  have HLE := Aside0.mk (show w.heap.size ≤ g8 by have := HB.out.size; have := hb.size; omega)
  unfold zeroT at hW2
  obtain ⟨b0, b1, b2, b3, b4, b5⟩ := six_cells h8
  obtain ⟨f0, f1, f2, f3, f4, f5⟩ := six_live h8
  have HW2 := Aside0.mk h8
  have HW6 := Aside0.mk h6
  have HK2 := Aside0.mk hk2
  clear hb hb2 h8 h6a h6 hk2 hk HC hW
  unfold cellsT
  go_wp2_with fail
  refine (plain_calls _ x A2 c2 A5 c5).mono ?_
  rintro e wb ⟨rfl, hb⟩
  have q8 := six_put (a' := .int .i64 x.f0) (b' := .bool x.f1.f0) (c' := .slice A2 x.f1.f1.length c2) (d' := .string x.f2) (e' := .int .i64 x.f3) (f' := .slice A5 x.f4.length c5) HW2.out
  have q6 := blk_far (a := .int .i64 x.f0) (b := .bool x.f1.f0) (d := .slice A2 x.f1.f1.length c2) (e := .string x.f2) (f := .int .i64 x.f3) (x := .slice A5 x.f4.length c5) HW6.out hne
  have qk := HKS.out.six _ g8 _ _ _ _ _ (.int .i64 x.f0) (.bool x.f1.f0) (.slice A2 x.f1.f1.length c2) (.string x.f2) (.int .i64 x.f3) (.slice A5 x.f4.length c5) HW2.out HK2.out
  have qb := below_six (a := .int .i64 x.f0) (b := .bool x.f1.f0) (c := .slice A2 x.f1.f1.length c2) (d := .string x.f2) (e := .int .i64 x.f3) (f := .slice A5 x.f4.length c5) HBW.out HLE.out
  have p8 := (hb.block _ (blk_lt q8)).trans q8
  have p6 := (hb.block _ (blk_lt q6)).trans q6
  have pk := HKS.out.below _ _ _ _ _ _ qk hb
  have pb := below_step qb hb
  clear hb q8 q6 qk qb hW2 b0 b1 b2 b3 b4 b5 f0 f1 f2 f3 f4 f5
  obtain ⟨b0, b1, b2, b3, b4, b5⟩ := six_cells p8
  obtain ⟨a0, a1, a2, a3, a4, a5⟩ := six_cells p6
  obtain ⟨f0, f1, f2, f3, f4, f5⟩ := six_live p6
  have H6 := Aside0.mk p6
  have HPK := Aside0.mk pk
  have HPB := Aside0.mk pb
  clear p8 p6 pk pb
  cases hpl : plainB x
  · go_wp2_with fail
    refine bodyPost_ret (results_ct rfl _ _ gr 45 (cellsT z45 none 0 none 0) (0, 0) _ rfl (six_put H6.out) Try.underlying45 rfl (by kernel_rfl)) rfl ?_
    exact ⟨A2, c2, A5, c5, by rw [hpl]; rfl, HKS.out.six _ gr _ _ _ _ _ _ _ _ _ _ _ H6.out HPK.out, below_six HPB.out HEQ.out⟩
  · go_wp2_with fail
    refine bodyPost_ret (results_ct rfl _ _ gr 45 (cellsT x A2 c2 A5 c5) (0, 0) _ rfl (six_put H6.out) Try.underlying45 rfl (by kernel_rfl)) rfl ?_
    exact ⟨A2, c2, A5, c5, by rw [hpl]; rfl, HKS.out.six _ gr _ _ _ _ _ _ _ _ _ _ _ H6.out HPK.out, below_six HPB.out HEQ.out⟩
end Go.Proofs.YthdmacdeefohkaaSource
