/- relictlaw21.awake. -/
import Derived.Test.YthdmacdeefohkaaArgs
namespace Go.Proofs.YthdmacdeefohkaaAwake21
open Go.RowKit Go.Proofs.YthdmacdeefohkaaW.PrintWords Go.Proofs.YthdmacdeefohkaaW.PrintLast Go.Proofs.YthdmacdeefohkaaW.PrintMore Go.Proofs.YthdmacdeefohkaaMem Go.Proofs.YthdmacdeefohkaaLeaf Go.Proofs.YthdmacdeefohkaaBits Go.Proofs.Ythdmacdeefohkaa.PMa Go.Proofs.YthdmacdeefohkaaMTerm Go.Proofs.YthdmacdeefohkaaMVal Go.Proofs.YthdmacdeefohkaaSource Go.Proofs.YthdmacdeefohkaaNew Go.Proofs.YthdmacdeefohkaaArgs Go.Proofs
set_option linter.unusedVariables false
set_option linter.unusedSimpArgs false
set_option maxHeartbeats 4000000 in
set_option maxRecDepth 100000 in
theorem awake21 (w : World) : Calls Try.prog 53 #[] w fun e w' => e = .returned (.bool true) ∧ Below w.heap.size w w' := by
  have hu45 := Try.underlying45
  have hu70 := Try.underlying70
  have hu67 := Try.underlying67
  have hz : Try.zeroCells70.size = 101 := rfl
  obtain ⟨Z, hZ⟩ : ∃ Z, Try.zeroCells70 = Z := ⟨_, rfl⟩
  rw [hZ] at hz
  obtain ⟨g0, hg0⟩ : ∃ g0, w.heap.size = g0 := ⟨_, rfl⟩
  obtain ⟨g1, hg1⟩ : ∃ g1, g0 + 1 = g1 := ⟨_, rfl⟩
  obtain ⟨cs, hcs⟩ : ∃ cs : List Value, [.int .i64 1, .bool false, .slice (some ⟨g0, 0, none⟩) 1 1, .string ⟨#[]⟩, .int .i64 0, .slice none 0 0] = cs := ⟨_, rfl⟩
  obtain ⟨W, hW⟩ : ∃ W, (w.alloc (.cells #[.int .u32 1] 123)).alloc (.cells #[.int .i64 1, .bool false, .slice (some ⟨g0, 0, none⟩) 1 1, .string ⟨#[]⟩, .int .i64 0, .slice none 0 0] 45) = W := ⟨_, rfl⟩
  have hb : Below w.heap.size w W := by rw [← hW]; exact below_alloc (below_alloc (Below.refl _ _) _) _
  have hblk : W.heap[g1]? = some (.cells cs.toArray 45 (0, 0)) := by rw [← hW, ← hcs, ← hg1, ← hg0]; exact blk_new2 _ _ _
  have HC := Aside0.mk (new_calls W 5 (some ⟨g1, 0, none⟩) 1 1 cs (by omega) (by rw [← hcs]; rfl) (fun _ => ⟨⟨g1, 0, none⟩, rfl, fun j v hj => by rw [add_plain]; exact (blk_cell hblk _).trans (by simpa using hj)⟩) (by rw [← hcs]; intro v hv; simp at hv; rcases hv with rfl | rfl | rfl | rfl | rfl | rfl <;> rfl))
  have HB := Aside0.mk hb
  have HCS := Aside0.mk hcs
  clear hblk hcs hb
  go_enter Try.func53, Try.ntmps53
  go_wp2_with fail
  refine HC.out.mono ?_
  rintro e wa ⟨rfl, hb⟩
  have hl0 : (regs0 (-1) 5).length = 101 := rfl
  have h10 : (regs0 (-1) 5).toArray.all (·.oneCell') = true := by rw [List.all_toArray]; rfl
  obtain ⟨R, hR⟩ : ∃ R, splice (regs0 (-1) 5) 0 cs = R := ⟨_, rfl⟩
  rw [hR]
  have hl1 : R.length = 101 := by rw [← hR, length_splice _ _ _ (by rw [← HCS.out, hl0]; simp)]; exact hl0
  have e0 : R = [.int .i64 1, .bool false, .slice (some ⟨g0, 0, none⟩) 1 1, .string ⟨#[]⟩, .int .i64 0, .slice none 0 0] ++ (regs0 (-1) 5).drop 6 := by rw [← hR, ← HCS.out]; rfl
  have h11 : R.toArray.all (·.oneCell') = true := by rw [List.all_toArray, e0]; rfl
  have c0 : R.toArray[0]? = some (.int .i64 1) := by rw [e0]; rfl
  have c1 : R.toArray[1]? = some (.bool false) := by rw [e0]; rfl
  have c2 : R.toArray[2]? = some (.slice (some ⟨g0, 0, none⟩) 1 1) := by rw [e0]; rfl
  have c3 : R.toArray[3]? = some (.string ⟨#[]⟩) := by rw [e0]; rfl
  have c4 : R.toArray[4]? = some (.int .i64 0) := by rw [e0]; rfl
  have c5 : R.toArray[5]? = some (.slice none 0 0) := by rw [e0]; rfl
  have c6 : R.toArray[6]? = some (.int .i64 0) := by rw [e0]; rfl
  have c7 : R.toArray[7]? = some (.bool false) := by rw [e0]; rfl
  have c8 : R.toArray[8]? = some (.slice none 0 0) := by rw [e0]; rfl
  have c9 : R.toArray[9]? = some (.string ⟨#[]⟩) := by rw [e0]; rfl
  have c10 : R.toArray[10]? = some (.int .i64 0) := by rw [e0]; rfl
  have c11 : R.toArray[11]? = some (.slice none 0 0) := by rw [e0]; rfl
  have c98 : R.toArray[98]? = some (.int .i64 (-1)) := by rw [e0]; rfl
  have c99 : R.toArray[99]? = some (.int .i64 5) := by rw [e0]; rfl
  obtain ⟨g, hg⟩ : ∃ g, wa.heap.size = g := ⟨_, rfl⟩
  obtain ⟨W1, hW1⟩ : ∃ W1, wa.alloc (.cells Z 70) = W1 := ⟨_, rfl⟩
  obtain ⟨W2, hW2⟩ : ∃ W2, W1.setRow g R.toArray = W2 := ⟨_, rfl⟩
  have b1 : W1.heap[g]? = some (.cells Z 70 (0, 0)) := by rw [← hW1, ← hg]; exact heap_alloc_new _ _
  have b2 : W2.heap[g]? = some (.cells R.toArray 70 (0, 0)) := by rw [← hW2]; exact setRow_heap W1 g _ _ _ _ b1
  have hbw : Below w.heap.size w W2 := by
    rw [← hW2, ← hW1]
    exact below_setRow (below_alloc (below_step HB.out hb) _) (by have := HB.out.size; have := hb.size; omega) _
  have d0 := (blk_cell b2 0).trans c0
  have d1 := (blk_cell b2 1).trans c1
  have d2 := (blk_cell b2 2).trans c2
  have d3 := (blk_cell b2 3).trans c3
  have d4 := (blk_cell b2 4).trans c4
  have d5 := (blk_cell b2 5).trans c5
  have d6 := (blk_cell b2 6).trans c6
  have d7 := (blk_cell b2 7).trans c7
  have d8 := (blk_cell b2 8).trans c8
  have d9 := (blk_cell b2 9).trans c9
  have d10 := (blk_cell b2 10).trans c10
  have d11 := (blk_cell b2 11).trans c11
  have d98 := (blk_cell b2 98).trans c98
  have d99 := (blk_cell b2 99).trans c99
  have HB2 := Aside0.mk hbw
  have HBL := Aside0.mk b1
  have HS0 := Aside0.mk (show (Try.prog.info? 70).map (·.size) = some R.toArray.size by rw [List.size_toArray, hl1]; kernel_rfl)
  have HZ0 := Aside0.mk (show Z.size = R.toArray.size from hz.trans (by rw [List.size_toArray, hl1]))
  have H11 := Aside0.mk h11
  have HD := Aside0.mk b2
  clear c0 c1 c2 c3 c4 c5 c6 c7 c8 c9 c10 c11 c98 c99 hb hbw b1 b2 hR e0 hl0 h10 h11 HC hW
  go_wp2_with ((with_reducible refine wpList_store_row (o := ⟨none, _, _, _, _, _⟩) rfl 70 (.tmp 1) (.tmp 6) rfl g R.toArray ?_ ?_ 70 Z HBL.out HS0.out HZ0.out H11.out ?_); rfl; rfl; rw [hW2])
  refine (plain_calls W2 ⟨1, ⟨false, [1]⟩, ⟨#[]⟩, 0, []⟩ (some ⟨g0, 0, none⟩) 1 none 0).mono ?_
  rintro e wb ⟨rfl, hb⟩
  have k6 := pw_cell_below hb d6
  have k7 := pw_cell_below hb d7
  have k8 := pw_cell_below hb d8
  have k9 := pw_cell_below hb d9
  have k10 := pw_cell_below hb d10
  have k11 := pw_cell_below hb d11
  have HB3 := Aside0.mk (below_step HB2.out hb)
  have p1 : plainB ⟨1, ⟨false, [1]⟩, ⟨#[]⟩, 0, []⟩ = true := rfl
  rw [p1]
  clear d0 d1 d2 d3 d4 d5 d6 d7 d8 d9 d10 d11 d98 d99 hb p1 hW1 hW2
  go_wp2_with fail
  refine (plain_calls wb z45 none 0 none 0).mono ?_
  rintro e wc ⟨rfl, hb⟩
  have HB4 := Aside0.mk (below_step HB3.out hb)
  have p1 : plainB z45 = false := rfl
  rw [p1]
  clear hb
  go_wp2_with fail
  go_ret
  exact ⟨rfl, HB4.out⟩
end Go.Proofs.YthdmacdeefohkaaAwake21
