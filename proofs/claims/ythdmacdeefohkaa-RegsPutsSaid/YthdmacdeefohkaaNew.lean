/- regs.New: its terms' cells, then zero terms. -/
import Derived.Test.YthdmacdeefohkaaCopyK
namespace Go.Proofs.YthdmacdeefohkaaNew
open Go.RowKit Go.Proofs.YthdmacdeefohkaaW.PrintWords Go.Proofs.YthdmacdeefohkaaW.PrintLast Go.Proofs.YthdmacdeefohkaaW.PrintMore Go.Proofs.YthdmacdeefohkaaMem Go.Proofs.YthdmacdeefohkaaLeaf Go.Proofs.YthdmacdeefohkaaBits Go.Proofs.Ythdmacdeefohkaa.PMa Go.Proofs.YthdmacdeefohkaaMTerm Go.Proofs.YthdmacdeefohkaaCopyK Go.Proofs
set_option linter.unusedVariables false
set_option linter.unusedSimpArgs false
/-- The cells of a zero term. -/
def zs6 : List Value := [.int .i64 0, .bool false, .slice none 0 0, .string ⟨#[]⟩, .int .i64 0, .slice none 0 0]
/-- Cells of registers that are empty but for where they go back to and where they are. -/
def regs0 (b N : Int) : List Value := zs6 ++ zs6 ++ zs6 ++ zs6 ++ zs6 ++ zs6 ++ zs6 ++ zs6 ++ zs6 ++ zs6 ++ zs6 ++ zs6 ++ zs6 ++ zs6 ++ zs6 ++ zs6 ++ [.slice none 0 0, .bool false, .int .i64 b, .int .i64 N, .int .i64 0]
set_option maxHeartbeats 4000000 in
set_option maxRecDepth 100000 in
theorem new_calls (w : World) (N : Int) (A : Option Addr) (n c : Nat) (cs : List Value) (hn : n ≤ 16) (hln : cs.length = n * 6)
    (hsrc : 0 < n → ∃ ad, A = some ad ∧ ∀ j v, cs[j]? = some v → w.cell? (ad.add j) = some v) (h1 : ∀ v ∈ cs, v.oneCell' = true) :
    Calls Try.prog 46 #[.int .i64 N, .slice A n c] w fun e w' => e = .returned (.agg (splice (regs0 (-1) N) 0 cs).toArray) ∧ Below w.heap.size w w' := by
  have hu45 := Try.underlying45
  have hu70 := Try.underlying70
  have hu67 := Try.underlying67
  have hz : Try.zeroCells70.size = 101 := rfl
  have hR0 : (Try.zeroCells70.setIfInBounds 98 (.int .i64 (-1))).setIfInBounds 99 (.int .i64 N) = (regs0 (-1) N).toArray := rfl
  have hl0 : (regs0 (-1) N).length = 101 := rfl
  have h10 : (regs0 (-1) N).toArray.all (·.oneCell') = true := by rw [List.all_toArray]; rfl
  obtain ⟨R0, hR⟩ : ∃ R0, regs0 (-1) N = R0 := ⟨_, rfl⟩
  rw [hR] at hR0 hl0 h10
  rw [hR]
  obtain ⟨R1, hR1⟩ : ∃ R1, splice R0 0 cs = R1 := ⟨_, rfl⟩
  have hl1 : R1.length = 101 := by rw [← hR1, length_splice _ _ _ (by omega)]; exact hl0
  have h11 : R1.toArray.all (·.oneCell') = true := by
    rw [← hR1]
    simp only [List.all_toArray, List.all_eq_true] at h10 ⊢
    intro v hv
    simp only [splice, List.take_zero, List.nil_append, List.mem_append] at hv
    rcases hv with hv | hv
    · exact h1 v hv
    · exact h10 v (List.mem_of_mem_drop hv)
  obtain ⟨g, hg⟩ : ∃ g, w.heap.size = g := ⟨_, rfl⟩
  obtain ⟨gm, hgm⟩ : ∃ gm, g + 1 = gm := ⟨_, rfl⟩
  obtain ⟨Z, hZ⟩ : ∃ Z, Try.zeroCells70 = Z := ⟨_, rfl⟩
  obtain ⟨W, hW⟩ : ∃ W, (w.alloc (.cells Z 70)).alloc (.cells Z 70) = W := ⟨_, rfl⟩
  obtain ⟨W1, hW1⟩ : ∃ W1, W.setRow gm R0.toArray = W1 := ⟨_, rfl⟩
  obtain ⟨W2, hW2⟩ : ∃ W2, W1.setRow gm R1.toArray = W2 := ⟨_, rfl⟩
  obtain ⟨W3, hW3⟩ : ∃ W3, W2.setRow g R1.toArray = W3 := ⟨_, rfl⟩
  rw [hZ] at hR0 hz
  have b0 : W.heap[g]? = some (.cells Z 70 (0, 0)) := by rw [← hW, ← hg]; exact blk_new1 _ _ _
  have b1 : W.heap[gm]? = some (.cells Z 70 (0, 0)) := by rw [← hW, ← hgm, ← hg]; exact blk_new2 _ _ _
  have hb : Below w.heap.size w W := by rw [← hW]; exact below_alloc (below_alloc (Below.refl _ _) _) _
  have c1 : W1.heap[gm]? = some (.cells R0.toArray 70 (0, 0)) := by rw [← hW1]; exact setRow_heap W gm _ _ _ _ b1
  have c0 : W1.heap[g]? = some (.cells Z 70 (0, 0)) := by rw [← hW1, setRow_other W gm g _ (by omega)]; exact b0
  have hb1 : Below w.heap.size w W1 := by rw [← hW1]; exact below_setRow hb (by omega) _
  have d1 : W2.heap[gm]? = some (.cells R1.toArray 70 (0, 0)) := by rw [← hW2]; exact setRow_heap W1 gm _ _ _ _ c1
  have d0 : W2.heap[g]? = some (.cells Z 70 (0, 0)) := by rw [← hW2, setRow_other W1 gm g _ (by omega)]; exact c0
  have hb2 : Below w.heap.size w W2 := by rw [← hW2]; exact below_setRow hb1 (by omega) _
  have e0 : W3.heap[g]? = some (.cells R1.toArray 70 (0, 0)) := by rw [← hW3]; exact setRow_heap W2 g _ _ _ _ d0
  have hb3 : Below w.heap.size w W3 := by rw [← hW3]; exact below_setRow hb2 (by omega) _
  have hpos : 0 < n → ∃ ad, A = some ad ∧ ∀ j v, cs[j]? = some v → W1.cell? (ad.add j) = some v := by
    intro h
    obtain ⟨ad, q1, q2⟩ := hsrc h
    exact ⟨ad, q1, fun j v hj => pw_cell_below hb1 (q2 j v hj)⟩
  have hmin : n = Nat.min n 16 := (Nat.min_eq_left hn).symm
  have HB1 := Aside0.mk b1
  have HC1 := Aside0.mk c1
  have HD1 := Aside0.mk d1
  have HD0 := Aside0.mk d0
  have HE0 := Aside0.mk e0
  have HB3 := Aside0.mk hb3
  have HPOS := Aside0.mk hpos
  have HFIT := Aside0.mk (show 0 + cs.length ≤ R0.length by omega)
  have HMIN := Aside0.mk hmin
  have HLN := Aside0.mk hln
  have H1 := Aside0.mk h1
  have H10 := Aside0.mk h10
  have H11 := Aside0.mk h11
  have HS0 := Aside0.mk (show (Try.prog.info? 70).map (·.size) = some R0.toArray.size by rw [List.size_toArray, hl0]; kernel_rfl)
  have HS1 := Aside0.mk (show (Try.prog.info? 70).map (·.size) = some R1.toArray.size by rw [List.size_toArray, hl1]; kernel_rfl)
  have HZ0 := Aside0.mk (show Z.size = R0.toArray.size from hz.trans (by rw [List.size_toArray, hl0]))
  have HZ1 := Aside0.mk (show Z.size = R1.toArray.size from hz.trans (by rw [List.size_toArray, hl1]))
  have HSZ := Aside0.mk (show (Try.prog.info? 45).map (·.size) = some 6 by kernel_rfl)
  have hu43 := Try.underlying43
  have HR1 := Aside0.mk hR1
  clear b0 b1 hb c1 c0 hb1 d1 d0 hb2 e0 hb3 hpos hmin hln h1 h10 h11 hsrc hl0 hl1 hR hR1
  go_enter Try.func46, Try.ntmps46
  go_wp2_with (first
    | ((with_reducible refine wpList_store_row (o := ⟨none, _, _, _, _, _⟩) rfl 70 (.tmp 5) (.tmp 7) rfl gm R0.toArray ?_ ?_ 70 Z HB1.out HS0.out HZ0.out H10.out ?_); rfl; rfl)
    | ((with_reducible refine wpList_copyK (o := ⟨some 11, _, _, _, _, _⟩) rfl (.tmp 9) (.tmp 10) 43 43 rfl 45 6 hu43 HSZ.out (some ⟨gm, 0, none⟩) A 16 16 n c ?_ ?_ gm 0 R0 70 HC1.out cs n HMIN.out HLN.out (fun h => ⟨rfl, HPOS.out h⟩) HFIT.out H1.out ?_); rfl; rfl; rintro w9 ⟨hw9⟩; rw [HR1.out, hW2] at hw9; subst hw9)
    | ((with_reducible refine wpList_load_row (o := ⟨some 12, _, _, _, _, _⟩) rfl 70 (.tmp 5) rfl gm ?_ 70 R1.toArray (0, 0) _ HD1.out hu70 rfl HS1.out ?_); rfl)
    | ((with_reducible refine wpList_store_row (o := ⟨none, _, _, _, _, _⟩) rfl 70 (.tmp 4) (.tmp 12) rfl g R1.toArray ?_ ?_ 70 Z HD0.out HS1.out HZ1.out H11.out ?_); rfl; rfl))
  rw [hW3]
  refine bodyPost_ret (results_cell_row rfl _ _ g 70 R1.toArray (0, 0) _ rfl HE0.out Try.underlying70 rfl HS1.out) rfl ?_
  exact ⟨by rw [HR1.out], HB3.out⟩
end Go.Proofs.YthdmacdeefohkaaNew
