/- A list that ends in itself is not got. -/
import Derived.Test.YtlifdpfhepamfaaRe
namespace Go.Proofs.YtlifdpfhepamfaaRf
open Go.RowKit Go.Maps Go.Proofs.YtlifdpfhepamfaaW.PrintWords Go.Proofs.YtlifdpfhepamfaaW.PrintLast Go.Proofs.YtlifdpfhepamfaaW.PrintMore Go.Proofs.YtlifdpfhepamfaaMem Go.Proofs.YtlifdpfhepamfaaLeaf Go.Proofs.YtlifdpfhepamfaaBits Go.Proofs.Ytlifdpfhepamfaa.PHe Go.Proofs.YtlifdpfhepamfaaRow Go.Proofs.YtlifdpfhepamfaaAr Go.Proofs.YtlifdpfhepamfaaHp Go.Proofs.YtlifdpfhepamfaaHn Go.Proofs.YtlifdpfhepamfaaHo Go.Proofs.YtlifdpfhepamfaaWd Go.Proofs.YtlifdpfhepamfaaRd Go.Proofs.YtlifdpfhepamfaaRt Go.Proofs.YtlifdpfhepamfaaNof Go.Proofs.YtlifdpfhepamfaaRs Go.Proofs.YtlifdpfhepamfaaRe Go.Proofs
set_option linter.unusedVariables false
set_option linter.unusedSimpArgs false
set_option maxHeartbeats 8000000 in
set_option maxRecDepth 100000 in
theorem term_no (w : World) (B h g gw m : Nat) (v : Value) (l : List Int) (n : Nat) (ns : List ByteArray) (r : Nat) (lf : Nat) (x : Int) (C : Int → Prop) (H : Hp B w h g gw m v l n ns) (hr : w.heap[r]? = some (rdB h (lf : Int))) (hrn : ¬ SH h g gw m v r) (hf0 : 1 ≤ lf) (hf1 : lf ≤ 2000) (hE : Endless l C) (hx : C x) :
    Calls Try.prog 94 #[.pointer (some ⟨r, 0, none⟩), .int .u64 x] w fun e w' => e = .returned (.tuple #[noV, .bool false]) ∧ Mods (fun k => k = r) w w' := by
  obtain ⟨x0, x1, x2, hgd, -, -, -, -⟩ := hE x hx
  have htg := tag_eq x
  have hcc := isCatch_eq _ x0 x1
  rw [x2] at htg
  rw [show isCatchI x = (0, false) by unfold isCatchI; rw [if_neg (by omega)]] at hcc
  obtain ⟨W0, hW0⟩ : ∃ W0, w.alloc (.cells #[.int .i64 0, .bool false, .slice none 0 0, .string ⟨#[]⟩, .int .i64 0, .slice none 0 0] 43) = W0 := ⟨_, rfl⟩
  obtain ⟨gr, hgr⟩ : ∃ gr, w.heap.size = gr := ⟨_, rfl⟩
  have hr0 : W0.heap[gr]? = some z6 := by rw [← hW0, ← hgr]; exact heap_alloc_new _ _
  have hb0 : Below w.heap.size w W0 := by rw [← hW0]; exact below_alloc (Below.refl _ _) _
  have hrr : W0.heap[r]? = some (rdB h (lf : Int)) := (hb0.block _ (blk_lt hr)).trans hr
  have c1 : W0.cell? ⟨r, 1, none⟩ = some (.int .i64 (lf : Int)) := (blk_cell hrr 1).trans rfl
  have f1 := blk_frozen hrr 1
  obtain ⟨W1, hW1⟩ : ∃ W1, W0.setCell ⟨r, 1, none⟩ (.int .i64 ((lf : Int) - 1)) = W1 := ⟨_, rfl⟩
  have hm1 : Mods (fun k => k = r) w W1 := by rw [← hW1]; exact (Mods.of_below _ hb0).trans ((Mods.refl (fun k => k = r) W0).setCell (p := ⟨r, 1, none⟩) (.inl rfl) _)
  have hr1 : W1.heap[r]? = some (rdB h ((lf : Int) - 1)) := by rw [← hW1]; exact blk_put hrr 1 _ rfl
  have hne : r ≠ gr := fun e => by have := blk_lt hr; omega
  have hg1 : W1.heap[gr]? = some z6 := by rw [← hW1]; exact (blk_far hr0 (p := ⟨r, 1, none⟩) (by first | exact hne | exact Ne.symm hne) _)
  have hh1 : Hp B W1 h g gw m v l n ns := H.mods hm1 (fun i hi e => hrn (by rw [← e]; exact hi))
  have d1 : W1.cell? ⟨r, 1, none⟩ = some (.int .i64 ((lf : Int) - 1)) := (blk_cell hr1 1).trans rfl
  have d0 : W1.cell? ⟨r, 0, none⟩ = some (.pointer (some ⟨h, 0, none⟩)) := (blk_cell hr1 0).trans rfl
  have HM1 := Aside0.mk hm1
  have HR1 := Aside0.mk hr1
  have HG1 := Aside0.mk hg1
  have HTG := Aside0.mk (fun W => word_Tag.calls x _ W htg)
  have HCC := Aside0.mk (fun W => word_IsCatch.calls x 0 false W hcc)
  have HGD := Aside0.mk (fun W (hH : Hp B W h g gw m v l n ns) => good_calls W B h g gw m v l n ns x hH x0 x1)
  rw [hgd] at HGD
  have HH1 := Aside0.mk hh1
  have HLS := Aside0.mk (fun W (hH : Hp B W h g gw m v l n ns) (hW : W.heap[r]? = some (rdB h ((lf - 1 : Nat) : Int))) => list_no W B h g gw m v l n ns r (lf - 1) x C hH hW hrn (by omega) hE hx)
  have hlt : ¬ ((lf : Int) - 1 < 0) := by omega
  clear H hr hrn hE hx hgd htg hcc hr0 hb0 hrr hm1 hr1 hg1 hh1 x2
  go_enter Try.func94, Try.ntmps94
  go_wp2_with fail
  refine (HCC.out _).mono ?_
  rintro e w2 ⟨rfl, nd2, rfl⟩
  clear c1 f1
  go_wp2_with fail
  refine (HGD.out _ (HH1.out.mods ((Mods.refl (fun _ => False) W1).drewN nd2) (fun _ _ => id))).mono ?_
  rintro e w3 ⟨rfl, nd3, rfl⟩
  go_wp2_with fail
  refine (HTG.out _).mono ?_
  rintro e w4 ⟨rfl, nd4, rfl⟩
  obtain ⟨W5, hW5⟩ : ∃ W5, W1.drewN (nd2 + nd3 + nd4) = W5 := ⟨_, rfl⟩
  have hm5 : Mods (fun _ => False) W1 W5 := by rw [← hW5]; exact (Mods.refl (fun _ => False) W1).drewN _
  have h5 := HH1.out.mods hm5 (fun _ _ => id)
  have hr5 : W5.heap[r]? = some (rdB h ((lf - 1 : Nat) : Int)) := by rw [show ((lf - 1 : Nat) : Int) = (lf : Int) - 1 by omega]; exact hm5.blk HR1.out id
  have hg5 : W5.heap[gr]? = some z6 := hm5.blk HG1.out id
  have HG5 := Aside0.mk hg5
  have HC5 := Aside0.mk (HLS.out W5 h5 hr5)
  have HM5 := Aside0.mk (HM1.out.trans (hm5.mono (S' := fun k => k = r) (fun i hi => hi.elim)))
  clear h5 hr5 hg5 hm5 HLS d0 d1
  go_wp2_with fail
  refine HC5.out.mono ?_
  rintro e w6 ⟨rfl, hm6⟩
  have hg6 := hm6.blk HG5.out (fun e => hne e.symm)
  have hg6' : w6.heap[gr]? = some (.cells #[.int .i64 0, .bool false, .slice none 0 0, .string ⟨#[]⟩, .int .i64 0, .slice none 0 0] 43 (0, 0)) := hg6
  obtain ⟨z0, z1, z2, z3, z4, z5⟩ := six_live hg6'
  obtain ⟨s0, s1, s2, s3, s4, s5⟩ := six_cells hg6'
  have HGF := Aside0.mk hg6
  have HMF := Aside0.mk (HM5.out.trans hm6)
  clear hm6 hg6 hg6' HC5
  unfold noV tv
  go_wp2_with fail
  refine bodyPost_ret (results_cell2 rfl _ _ gr 43 #[.int .i64 0, .bool false, .slice none 0 0, .string ⟨#[]⟩, .int .i64 0, .slice none 0 0] (0, 0) _ rfl (six_put HGF.out) Try.underlying43 rfl (by kernel_rfl)) rfl ?_
  exact ⟨rfl, mods_six HMF.out (.inr (by first | exact Nat.le_refl _ | (rw [hgr]; exact Nat.le_refl _)))⟩
set_option maxHeartbeats 8000000 in
set_option maxRecDepth 100000 in
theorem get_no (w : World) (B h g gw m : Nat) (v : Value) (l : List Int) (n : Nat) (ns : List ByteArray) (x : Int) (C : Int → Prop) (H : Hp B w h g gw m v l n ns) (hE : Endless l C) (hx : C x) :
    Calls Try.prog 42 #[.pointer (some ⟨h, 0, none⟩), .int .u64 x] w fun e w' => e = .returned (.tuple #[noV, .bool false]) ∧ Below w.heap.size w w' := by
  obtain ⟨W0, hW0⟩ : ∃ W0, w.alloc (.cells #[.int .i64 0, .bool false, .slice none 0 0, .string ⟨#[]⟩, .int .i64 0, .slice none 0 0] 43) = W0 := ⟨_, rfl⟩
  obtain ⟨gr, hgr⟩ : ∃ gr, w.heap.size = gr := ⟨_, rfl⟩
  have hr0 : W0.heap[gr]? = some z6 := by rw [← hW0, ← hgr]; exact heap_alloc_new _ _
  have hb0 : Below w.heap.size w W0 := by rw [← hW0]; exact below_alloc (Below.refl _ _) _
  have hs0 : W0.heap.size = gr + 1 := by rw [← hW0, ← hgr]; exact Array.size_push _
  obtain ⟨W1, hW1⟩ : ∃ W1, W0.alloc (.cells #[.pointer (some ⟨h, 0, none⟩), .int .i64 2000] 128) = W1 := ⟨_, rfl⟩
  obtain ⟨r, hr⟩ : ∃ r, gr + 1 = r := ⟨_, rfl⟩
  have hr1 : W1.heap[r]? = some (rdB h 2000) := by rw [← hW1, ← hr, ← hs0]; exact heap_alloc_new _ _
  have hb1 : Below w.heap.size w W1 := by rw [← hW1]; exact below_alloc hb0 _
  have hg1 : W1.heap[gr]? = some z6 := by rw [← hW1]; exact ((below_alloc (Below.refl W0.heap.size W0) _).block _ (blk_lt hr0)).trans hr0
  have hle0 : w.heap.size ≤ r := by omega
  have HC := Aside0.mk (term_no W1 B h g gw m v l n ns r 2000 x C (H.below hb1) hr1 (fun hs => by have := (H.foot r hs).2; omega) (by omega) (by omega) hE hx)
  have HB1 := Aside0.mk hb1
  have HG1 := Aside0.mk hg1
  have hle : w.heap.size ≤ r := by omega
  have hne : gr ≠ r := by omega
  clear hr0 hb0 hr1 hb1 hg1 hE hx
  go_enter Try.func42, Try.ntmps42
  go_wp2_with fail
  refine HC.out.mono ?_
  rintro e w2 ⟨rfl, hm⟩
  have hg2 : w2.heap[gr]? = some z6 := hm.blk HG1.out hne
  obtain ⟨q, hq⟩ : ∃ q, w2.heap.size = q := ⟨_, rfl⟩
  obtain ⟨W3, hW3⟩ : ∃ W3, w2.alloc (.cells #[.int .i64 0, .bool false, .slice none 0 0, .string ⟨#[]⟩, .int .i64 0, .slice none 0 0] 43) = W3 := ⟨_, rfl⟩
  have hq3 : W3.heap[q]? = some z6 := by rw [← hW3, ← hq]; exact heap_alloc_new _ _
  have hb3 : Below w2.heap.size w2 W3 := by rw [← hW3]; exact below_alloc (Below.refl _ _) _
  have hg3 : W3.heap[gr]? = some z6 := (hb3.block _ (blk_lt hg2)).trans hg2
  have hgq : gr ≠ q := fun e => by have := blk_lt hg2; omega
  have hq3' : W3.heap[q]? = some (.cells #[.int .i64 0, .bool false, .slice none 0 0, .string ⟨#[]⟩, .int .i64 0, .slice none 0 0] 43 (0, 0)) := hq3
  have m5 := six_put (a' := .int .i64 0) (b' := .bool false) (c' := .slice none 0 0) (d' := .string ⟨#[]⟩) (e' := .int .i64 0) (f' := .slice none 0 0) hq3'
  obtain ⟨p0, p1, p2, p3, p4, p5⟩ := six_cells hq3'
  obtain ⟨z0, z1, z2, z3, z4, z5⟩ := six_live hq3'
  obtain ⟨W6, hW6⟩ : ∃ W6, (((((W3.setCell ⟨q, 0, none⟩ (.int .i64 0)).setCell ⟨q, 1, none⟩ (.bool false)).setCell ⟨q, 2, none⟩ (.slice none 0 0)).setCell ⟨q, 3, none⟩ (.string ⟨#[]⟩)).setCell ⟨q, 4, none⟩ (.int .i64 0)).setCell ⟨q, 5, none⟩ (.slice none 0 0) = W6 := ⟨_, rfl⟩
  rw [hW6] at m5
  obtain ⟨r0, r1, r2, r3, r4, r5⟩ := six_cells m5
  have hb6 : Below w2.heap.size w2 W6 := by rw [← hW6]; exact below_six hb3 (by omega)
  have hg6 : W6.heap[gr]? = some z6 := (hb6.block _ (blk_lt hg2)).trans hg2
  have hg6' : W6.heap[gr]? = some (.cells #[.int .i64 0, .bool false, .slice none 0 0, .string ⟨#[]⟩, .int .i64 0, .slice none 0 0] 43 (0, 0)) := hg6
  obtain ⟨s0, s1, s2, s3, s4, s5⟩ := six_cells hg6'
  obtain ⟨f0, f1, f2, f3, f4, f5⟩ := six_live hg6'
  have HG6 := Aside0.mk hg6
  have HB6 := Aside0.mk hb6
  have HM2 := Aside0.mk hm
  clear hg2 hm hq3 hb3 hg3 hq3' m5 hg6 hg6' hb6
  unfold noV tv
  go_wp2_with fail
  refine bodyPost_ret (results_cell2 rfl _ _ gr 43 #[.int .i64 0, .bool false, .slice none 0 0, .string ⟨#[]⟩, .int .i64 0, .slice none 0 0] (0, 0) _ rfl (six_put HG6.out) Try.underlying43 rfl (by kernel_rfl)) rfl ?_
  have hm6 : Mods (fun k => k = r) W1 W6 := HM2.out.then_below HB6.out
  have hb7 : Below w.heap.size w W6 := below_mods HB1.out hm6 HB1.out.size (fun k hk => by omega)
  have hle0 : w.heap.size ≤ gr := by omega
  exact ⟨rfl, below_six hb7 hle0⟩
end Go.Proofs.YtlifdpfhepamfaaRf
