/- The reader of terms: a list that ends in itself is none. -/
import Derived.Test.YtlifdpfhepamfaaRs
namespace Go.Proofs.YtlifdpfhepamfaaRe
open Go.RowKit Go.Maps Go.Proofs.YtlifdpfhepamfaaW.PrintWords Go.Proofs.YtlifdpfhepamfaaW.PrintLast Go.Proofs.YtlifdpfhepamfaaW.PrintMore Go.Proofs.YtlifdpfhepamfaaMem Go.Proofs.YtlifdpfhepamfaaLeaf Go.Proofs.YtlifdpfhepamfaaBits Go.Proofs.Ytlifdpfhepamfaa.PHe Go.Proofs.YtlifdpfhepamfaaRow Go.Proofs.YtlifdpfhepamfaaAr Go.Proofs.YtlifdpfhepamfaaHp Go.Proofs.YtlifdpfhepamfaaHn Go.Proofs.YtlifdpfhepamfaaHo Go.Proofs.YtlifdpfhepamfaaWd Go.Proofs.YtlifdpfhepamfaaRd Go.Proofs.YtlifdpfhepamfaaRt Go.Proofs.YtlifdpfhepamfaaNof Go.Proofs.YtlifdpfhepamfaaRs Go.Proofs
set_option linter.unusedVariables false
set_option linter.unusedSimpArgs false
/-- No term. -/
def noV : Value := tv 0 false none 0 0 ⟨#[]⟩ 0 none 0 0
set_option maxHeartbeats 8000000 in
set_option maxRecDepth 100000 in
theorem term_dead (w : World) (h r : Nat) (x : Int) (hr : w.heap[r]? = some (rdB h 0)) :
    Calls Try.prog 94 #[.pointer (some ⟨r, 0, none⟩), .int .u64 x] w fun e w' => e = .returned (.tuple #[noV, .bool false]) ∧ Mods (fun k => k = r) w w' := by
  obtain ⟨W0, hW0⟩ : ∃ W0, w.alloc (.cells #[.int .i64 0, .bool false, .slice none 0 0, .string ⟨#[]⟩, .int .i64 0, .slice none 0 0] 43) = W0 := ⟨_, rfl⟩
  obtain ⟨gr, hgr⟩ : ∃ gr, w.heap.size = gr := ⟨_, rfl⟩
  have hr0 : W0.heap[gr]? = some z6 := by rw [← hW0, ← hgr]; exact heap_alloc_new _ _
  have hb0 : Below w.heap.size w W0 := by rw [← hW0]; exact below_alloc (Below.refl _ _) _
  have hrr : W0.heap[r]? = some (rdB h 0) := (hb0.block _ (blk_lt hr)).trans hr
  have c1 : W0.cell? ⟨r, 1, none⟩ = some (.int .i64 0) := (blk_cell hrr 1).trans rfl
  have f1 := blk_frozen hrr 1
  obtain ⟨W1, hW1⟩ : ∃ W1, W0.setCell ⟨r, 1, none⟩ (.int .i64 (-1)) = W1 := ⟨_, rfl⟩
  have hm1 : Mods (fun k => k = r) w W1 := by rw [← hW1]; exact (Mods.of_below _ hb0).trans ((Mods.refl (fun k => k = r) W0).setCell (p := ⟨r, 1, none⟩) (.inl rfl) _)
  have hr1 : W1.heap[r]? = some (rdB h (-1)) := by rw [← hW1]; exact blk_put hrr 1 _ rfl
  have hne : r ≠ gr := fun e => by have := blk_lt hr; omega
  have hg1 : W1.heap[gr]? = some z6 := by rw [← hW1]; exact (blk_far hr0 (p := ⟨r, 1, none⟩) (by first | exact hne | exact Ne.symm hne) _)
  have d1 : W1.cell? ⟨r, 1, none⟩ = some (.int .i64 (-1)) := (blk_cell hr1 1).trans rfl
  have hg1' : W1.heap[gr]? = some (.cells #[.int .i64 0, .bool false, .slice none 0 0, .string ⟨#[]⟩, .int .i64 0, .slice none 0 0] 43 (0, 0)) := hg1
  obtain ⟨z0, z1, z2, z3, z4, z5⟩ := six_live hg1'
  obtain ⟨s0, s1, s2, s3, s4, s5⟩ := six_cells hg1'
  have HM1 := Aside0.mk hm1
  have HG1 := Aside0.mk hg1
  clear hr hr0 hb0 hrr hm1 hr1 hg1 hg1'
  go_enter Try.func94, Try.ntmps94
  go_wp2_with fail
  refine bodyPost_ret (results_cell2 rfl _ _ gr 43 #[.int .i64 0, .bool false, .slice none 0 0, .string ⟨#[]⟩, .int .i64 0, .slice none 0 0] (0, 0) _ rfl (six_put HG1.out) Try.underlying43 rfl (by kernel_rfl)) rfl ?_
  exact ⟨rfl, mods_six HM1.out (.inr (by first | exact Nat.le_refl _ | (rw [hgr]; exact Nat.le_refl _)))⟩
/-- Words that lead to cells, each to the next, for ever. -/
def Endless (l : List Int) (C : Int → Prop) : Prop := ∀ x, C x → 0 ≤ x ∧ x < 18446744073709551616 ∧ x % 4 = 1 ∧ goodI l x = true ∧ 0 ≤ atI x ∧ atI x ≤ 40000 ∧ (∃ z, 0 ≤ z ∧ z < 1099511627776 ∧ wordA l (atI x) = smallW z) ∧ C (wordA l (atI x + 1))
set_option maxHeartbeats 8000000 in
set_option maxRecDepth 100000 in
theorem list_no (w : World) (B h g gw m : Nat) (v : Value) (l : List Int) (n : Nat) (ns : List ByteArray) (r : Nat) (lf : Nat) (x : Int) (C : Int → Prop) (H : Hp B w h g gw m v l n ns) (hr : w.heap[r]? = some (rdB h (lf : Int))) (hrn : ¬ SH h g gw m v r) (hf1 : lf ≤ 2000) (hE : Endless l C) (hx : C x) :
    Calls Try.prog 139 #[.pointer (some ⟨r, 0, none⟩), .int .u64 x] w fun e w' => e = .returned (.tuple #[noV, .bool false]) ∧ Mods (fun k => k = r) w w' := by
  obtain ⟨i0, hi0, hz⟩ := Option.map_eq_some_iff.1 info43
  simp only [Prod.mk.injEq] at hz
  obtain ⟨hz0, hz1, hz2⟩ := hz
  have HI := Aside0.mk (And.intro hi0 (And.intro hz0 (And.intro hz1 hz2)))
  obtain ⟨W0, hW0⟩ : ∃ W0, w.alloc (.cells #[.int .i64 0, .bool false, .slice none 0 0, .string ⟨#[]⟩, .int .i64 0, .slice none 0 0] 43) = W0 := ⟨_, rfl⟩
  obtain ⟨gr, hgr⟩ : ∃ gr, w.heap.size = gr := ⟨_, rfl⟩
  have hr0 : W0.heap[gr]? = some z6 := by rw [← hW0, ← hgr]; exact heap_alloc_new _ _
  have hb0 : Below w.heap.size w W0 := by rw [← hW0]; exact below_alloc (Below.refl _ _) _
  have hs0 : W0.heap.size = gr + 1 := by rw [← hW0, ← hgr]; exact Array.size_push _
  have hrr : W0.heap[r]? = some (rdB h (lf : Int)) := (hb0.block _ (blk_lt hr)).trans hr
  have hne : r ≠ gr := fun e => by have := blk_lt hr; omega
  have HG0 := Aside0.mk hr0
  have HR0 := Aside0.mk hrr
  have HM0 : Aside0 (Mods (fun k => k = r) w W0) := ⟨Mods.of_below _ hb0⟩
  have HH := Aside0.mk H
  have HRN := Aside0.mk hrn
  have HE := Aside0.mk hE
  have HX := Aside0.mk hx
  have HS0 := Aside0.mk hs0
  have HRL := Aside0.mk (blk_lt hr)
  clear hi0 hz0 hz1 hz2 hr0 hb0 hs0 hrr H hrn hE hx hr
  go_enter Try.func139, Try.ntmps139
  go_wp2_with fail
  go_loopg [1, 6] lf (fun q v1 v6 wr => ∃ (y : Int) (nn : Nat) (cs : List Value), v1 = .int .u64 y ∧ Aside0 (C y) ∧ Aside0 (Row wr (gr + 1) 43 6 v6 nn cs) ∧ nn + q ≤ 2000 ∧ Aside0 (wr.heap[r]? = some (rdB h (q : Int))) ∧ Aside0 (Mods (fun k => k = r) w wr) ∧ Aside0 (wr.heap[gr]? = some z6))
  case atStart => exact ⟨x, 0, [], rfl, HX, ⟨Row.of_own (World.ownsRow_nil _ _ _ _)⟩, by omega, HR0, HM0, HG0⟩
  case round =>
    obtain ⟨y, nn, cs, rfl, HY, HROW, hnq, HR, HM, HG⟩ := hrel
    obtain ⟨y0, y1, y2, y3, y4, y5, ⟨z, z0, z1, hz⟩, hy⟩ := HE.out y HY.out
    have hh := HH.out.mods HM.out (fun i hi e => HRN.out (by rw [← e]; exact hi))
    have d0 : wr.cell? ⟨r, 0, none⟩ = some (.pointer (some ⟨h, 0, none⟩)) := (blk_cell HR.out 0).trans rfl
    have d1 := hh.cells.1
    have hat := at_eq _ y0 y1
    obtain ⟨p, hp⟩ : ∃ p, atI y = p := ⟨_, rfl⟩
    rw [hp] at hat hz hy y4 y5
    have HAT := Aside0.mk (fun W => word_At.calls y p W hat)
    have HWD := Aside0.mk (fun nd => word_calls (wr.drewN nd) g gw n l p (hh.ar.drewN nd))
    rw [hz] at HWD
    have HHH := Aside0.mk hh
    have HYN := Aside0.mk hy
    clear hh hat hp hz hy
    go_wp2_with fail
    refine (HAT.out _).mono ?_
    rintro e w2 ⟨rfl, nd2, rfl⟩
    go_wp2_with fail
    refine (HWD.out _).mono ?_
    rintro e w3 ⟨rfl, nd3, rfl⟩
    -- round
    have HX4 : Aside0 (Mods (fun _ => False) wr (wr.drewN (nd2 + nd3))) := ⟨(Mods.refl (fun _ => False) wr).drewN _⟩
    have HR4 := Aside0.mk (HX4.out.blk HR.out id)
    have HG4 := Aside0.mk (HX4.out.blk HG.out id)
    have HROW4 := Aside0.mk (HROW.out.mods HX4.out (fun _ _ => id))
    have HM4 := Aside0.mk (HM.out.trans (HX4.out.mono (S' := fun k => k = r) (fun i hi => hi.elim)))
    have HH4 := Aside0.mk (HHH.out.mods HX4.out (fun _ _ => id))
    clear HAT HWD HR HG HM HROW HHH HX4 d0 d1
    cases gk with
    | zero =>
      have HT := Aside0.mk (term_dead (wr.drewN (nd2 + nd3)) h r (smallW z) HR4.out)
      go_wp2_with fail
      refine HT.out.mono ?_
      rintro e w5 ⟨rfl, hm5⟩
      have hg5 := hm5.blk HG4.out (fun e => hne e.symm)
      obtain ⟨gq, hgq⟩ : ∃ gq, w5.heap.size = gq := ⟨_, rfl⟩
      obtain ⟨Wgq, hWgq⟩ : ∃ Wgq, w5.alloc (.cells #[.int .i64 0, .bool false, .slice none 0 0, .string ⟨#[]⟩, .int .i64 0, .slice none 0 0] 43) = Wgq := ⟨_, rfl⟩
      have hngq : Wgq.heap[gq]? = some (.cells #[.int .i64 0, .bool false, .slice none 0 0, .string ⟨#[]⟩, .int .i64 0, .slice none 0 0] 43 (0, 0)) := by rw [← hWgq, ← hgq]; exact heap_alloc_new _ _
      have hbgq : Below w5.heap.size w5 Wgq := by rw [← hWgq]; exact below_alloc (Below.refl _ _) _
      have mgq := six_put (a' := .int .i64 0) (b' := .bool false) (c' := .slice none 0 0) (d' := .string ⟨#[]⟩) (e' := .int .i64 0) (f' := .slice none 0 0) hngq
      obtain ⟨qp0, qp1, qp2, qp3, qp4, qp5⟩ := six_cells hngq
      obtain ⟨qz0, qz1, qz2, qz3, qz4, qz5⟩ := six_live hngq
      obtain ⟨Vgq, hVgq⟩ : ∃ Vgq, (((((Wgq.setCell ⟨gq, 0, none⟩ (.int .i64 0)).setCell ⟨gq, 1, none⟩ (.bool false)).setCell ⟨gq, 2, none⟩ (.slice none 0 0)).setCell ⟨gq, 3, none⟩ (.string ⟨#[]⟩)).setCell ⟨gq, 4, none⟩ (.int .i64 0)).setCell ⟨gq, 5, none⟩ (.slice none 0 0) = Vgq := ⟨_, rfl⟩
      rw [hVgq] at mgq
      have hcgq : Below w5.heap.size w5 Vgq := by rw [← hVgq]; exact below_six hbgq (by rw [hgq]; exact Nat.le_refl _)
      obtain ⟨qr0, qr1, qr2, qr3, qr4, qr5⟩ := six_cells mgq
      have HGF := Aside0.mk ((hcgq.block _ (blk_lt hg5)).trans hg5)
      have HMF := Aside0.mk ((HM4.out.trans hm5).then_below hcgq)
      have hgF' : Vgq.heap[gr]? = some (.cells #[.int .i64 0, .bool false, .slice none 0 0, .string ⟨#[]⟩, .int .i64 0, .slice none 0 0] 43 (0, 0)) := HGF.out
      obtain ⟨f0, f1, f2, f3, f4, f5⟩ := six_live hgF'
      obtain ⟨e0, e1, e2, e3, e4, e5⟩ := six_cells hgF'
      clear hgF'
      clear hm5 hg5 hngq hbgq hcgq mgq HT
      unfold noV tv
      go_wp2_with fail
      refine bodyPost_ret (results_cell2 rfl _ _ gr 43 #[.int .i64 0, .bool false, .slice none 0 0, .string ⟨#[]⟩, .int .i64 0, .slice none 0 0] (0, 0) _ rfl (six_put HGF.out) Try.underlying43 rfl (by kernel_rfl)) rfl ?_
      exact ⟨rfl, mods_six HMF.out (.inr (by first | exact Nat.le_refl _ | (rw [hgr]; exact Nat.le_refl _)))⟩
    | succ k1 =>
      have HT := Aside0.mk (Go.Proofs.YtlifdpfhepamfaaRs.term_int (wr.drewN (nd2 + nd3)) B h g gw m v l n ns r ((k1 + 1 : Nat) : Int) z HH4.out HR4.out HRN.out (by omega) (by omega) (by omega) (by omega))
      go_wp2_with fail
      refine HT.out.mono ?_
      rintro e w5 ⟨A', c', rfl, hRL, hm5, hr5⟩
      have hg5 := hm5.blk HG4.out (fun e => hne e.symm)
      have hrow5 := HROW4.out.mods hm5 (fun k hk hs => by have h1 := (HROW4.out.base_ k hk).1; have h2 := HRL.out; omega)
      generalize decide (z < 0) = sg
      generalize (limbs (absI z)).length = ln
      obtain ⟨gq, hgq⟩ : ∃ gq, w5.heap.size = gq := ⟨_, rfl⟩
      obtain ⟨Wgq, hWgq⟩ : ∃ Wgq, w5.alloc (.cells #[.int .i64 0, .bool false, .slice none 0 0, .string ⟨#[]⟩, .int .i64 0, .slice none 0 0] 43) = Wgq := ⟨_, rfl⟩
      have hngq : Wgq.heap[gq]? = some (.cells #[.int .i64 0, .bool false, .slice none 0 0, .string ⟨#[]⟩, .int .i64 0, .slice none 0 0] 43 (0, 0)) := by rw [← hWgq, ← hgq]; exact heap_alloc_new _ _
      have hbgq : Below w5.heap.size w5 Wgq := by rw [← hWgq]; exact below_alloc (Below.refl _ _) _
      have mgq := six_put (a' := .int .i64 1) (b' := .bool sg) (c' := (.slice A' ln c')) (d' := .string ⟨#[]⟩) (e' := .int .i64 0) (f' := .slice none 0 0) hngq
      obtain ⟨qp0, qp1, qp2, qp3, qp4, qp5⟩ := six_cells hngq
      obtain ⟨qz0, qz1, qz2, qz3, qz4, qz5⟩ := six_live hngq
      obtain ⟨Vgq, hVgq⟩ : ∃ Vgq, (((((Wgq.setCell ⟨gq, 0, none⟩ (.int .i64 1)).setCell ⟨gq, 1, none⟩ (.bool sg)).setCell ⟨gq, 2, none⟩ ((.slice A' ln c'))).setCell ⟨gq, 3, none⟩ (.string ⟨#[]⟩)).setCell ⟨gq, 4, none⟩ (.int .i64 0)).setCell ⟨gq, 5, none⟩ (.slice none 0 0) = Vgq := ⟨_, rfl⟩
      rw [hVgq] at mgq
      have hcgq : Below w5.heap.size w5 Vgq := by rw [← hVgq]; exact below_six hbgq (by rw [hgq]; exact Nat.le_refl _)
      obtain ⟨qr0, qr1, qr2, qr3, qr4, qr5⟩ := six_cells mgq
      have HM6 := Aside0.mk ((HM4.out.trans hm5).then_below hcgq)
      have HG6 := Aside0.mk ((hcgq.block _ (blk_lt hg5)).trans hg5)
      have HR6 := Aside0.mk ((hcgq.block _ (blk_lt hr5)).trans hr5)
      have HROW6 := Aside0.mk (hrow5.mods (Mods.of_below (fun _ => False) hcgq) (fun _ _ => id))
      obtain ⟨g7, hg7⟩ : ∃ g7, Vgq.heap.size = g7 := ⟨_, rfl⟩
      obtain ⟨W7, hW7⟩ : ∃ W7, Vgq.alloc (.cells #[.int .i64 1, .bool sg, .slice A' ln c', .string ⟨#[]⟩, .int .i64 0, .slice none 0 0] 43) = W7 := ⟨_, rfl⟩
      have hn7 : W7.heap[g7]? = some (.cells #[.int .i64 1, .bool sg, .slice A' ln c', .string ⟨#[]⟩, .int .i64 0, .slice none 0 0] 43 (0, 0)) := by rw [← hW7, ← hg7]; exact heap_alloc_new _ _
      have hb7 : Below Vgq.heap.size Vgq W7 := by rw [← hW7]; exact below_alloc (Below.refl _ _) _
      have HN7 := Aside0.mk hn7
      have HROW7 := Aside0.mk (HROW6.out.mods (Mods.of_below (fun _ => False) hb7) (fun _ _ => id))
      have HM7 := Aside0.mk (HM6.out.then_below hb7)
      have HG7 := Aside0.mk ((hb7.block _ (blk_lt HG6.out)).trans HG6.out)
      have HR7 := Aside0.mk ((hb7.block _ (blk_lt HR6.out)).trans HR6.out)
      have HSZ7 : Aside0 (gr + 1 ≤ W7.heap.size) := ⟨by have h1 := blk_lt HG7.out; omega⟩
      obtain ⟨y2, hy2⟩ : ∃ y2, wordA l (p + 1) = y2 := ⟨_, rfl⟩
      have HYC := HYN.out
      rw [hy2] at HYC
      obtain ⟨t0, t1, t2, t3, -⟩ := HE.out y2 HYC
      have htg := tag_eq y2
      rw [t2] at htg
      have HF9 : Aside0 (∀ w9, W7.grownBy w9 u6.ownBlock → w9.heap[r]? = some (rdB h (k1 : Int)) ∧ w9.heap[gr]? = some z6 ∧ Mods (fun k => k = r) w w9 ∧ Hp B w9 h g gw m v l n ns) := ⟨fun w9 hg9 => by
        have h2 := HRL.out
        have hm9 := Mods.of_grown hg9
        have hbs : ∀ k, some k = u6.ownBlock → gr + 1 ≤ k := fun k e => (HROW7.out.base_ k e.symm).1
        have hmm := HM7.out.trans' hm9 (fun k hk => .inr (by have := hbs k hk; omega))
        refine ⟨?_, hm9.blk HG7.out (fun e => by have := hbs gr e; omega), hmm, HH.out.mods hmm (fun i hi e => HRN.out (by rw [← e]; exact hi))⟩
        have := hm9.blk HR7.out (fun e => by have := hbs r e; omega)
        rw [this]
        congr 2
        omega⟩
      have HWD2 := Aside0.mk (fun (W : World) (hH : Hp B W h g gw m v l n ns) => word_calls W g gw n l (p + 1) hH.ar)
      rw [hy2] at HWD2
      have HTG := Aside0.mk (fun W => word_Tag.calls y2 1 W htg)
      have HGD := Aside0.mk (fun W (hH : Hp B W h g gw m v l n ns) => good_calls W B h g gw m v l n ns y2 hH t0 t1)
      rw [t3] at HGD
      have HYC2 := Aside0.mk HYC
      clear hm5 hg5 hr5 hrow5 hngq hbgq hcgq mgq HT hn7 hb7 hRL hy2 HYC htg t0 t1 t2 t3
      unfold tv
      go_wp2_with (at_builtin; refine wp_append_row rfl (.tmp 31) (.tmp 33) 32 rfl (gr + 1) 43 i0 _ 6 88 Try.underlying32 HI.out.1 HI.out.2.1 HI.out.2.2.1 HI.out.2.2.2 rfl (by omega) _ nn _ rfl HROW7.out ⟨g7, 0, none⟩ 1 1 [.int .i64 1, .bool sg, .slice A' ln c', .string ⟨#[]⟩, .int .i64 0, .slice none 0 0] rfl rfl (fun j q hj => by rw [add_plain, blk_cell HN7.out]; simpa using hj) (by intro q hq; simp at hq; rcases hq with rfl | rfl | rfl | rfl | rfl | rfl <;> rfl) (by unfold maxLen; omega) (by omega) HSZ7.out ?_; intro A9 c9 w9 hrow9 hg9 hat9; have HQ9 := Aside0.mk (HF9.out w9 hg9); have HROW9 := Aside0.mk hrow9; have d0 : w9.cell? ⟨r, 0, none⟩ = some (.pointer (some ⟨h, 0, none⟩)) := (blk_cell HQ9.out.1 0).trans rfl; have d1 := HQ9.out.2.2.2.cells.1; clear hrow9 hg9 hat9)
      refine (HWD2.out w9 HQ9.out.2.2.2).mono ?_
      rintro e w10 ⟨rfl, nd10, rfl⟩
      clear d0 d1
      go_wp2_with fail
      refine (HTG.out _).mono ?_
      rintro e w11 ⟨rfl, nd11, rfl⟩
      obtain ⟨w11, hw11⟩ : ∃ w11, w9.drewN (nd10 + nd11) = w11 := ⟨_, rfl⟩
      have hx11 : Mods (fun _ => False) w9 w11 := by rw [← hw11]; exact (Mods.refl (fun _ => False) w9).drewN _
      have hr11 := hx11.blk HQ9.out.1 id
      have hg11 := hx11.blk HQ9.out.2.1 id
      have c1 : w11.cell? ⟨r, 1, none⟩ = some (.int .i64 (k1 : Int)) := (blk_cell hr11 1).trans rfl
      have f1 := blk_frozen hr11 1
      have hk2 : k1 ≤ 2000 := by omega
      obtain ⟨k2, hkk⟩ : ∃ k2 : Int, (k1 : Int) - 1 = k2 := ⟨_, rfl⟩
      obtain ⟨W12, hW12⟩ : ∃ W12, w11.setCell ⟨r, 1, none⟩ (.int .i64 ((k1 : Int) - 1)) = W12 := ⟨_, rfl⟩
      have hm12 : Mods (fun k => k = r) w W12 := by rw [← hW12]; exact (HQ9.out.2.2.1.trans (hx11.mono (S' := fun k => k = r) (fun i hi => hi.elim))).setCell (p := ⟨r, 1, none⟩) (.inl rfl) _
      have hr12 : W12.heap[r]? = some (rdB h ((k1 : Int) - 1)) := by rw [← hW12]; exact blk_put hr11 1 _ rfl
      have hg12 : W12.heap[gr]? = some z6 := by rw [← hW12]; exact (blk_far hg11 (p := ⟨r, 1, none⟩) (by first | exact hne | exact Ne.symm hne) _)
      have d0 : W12.cell? ⟨r, 0, none⟩ = some (.pointer (some ⟨h, 0, none⟩)) := (blk_cell hr12 0).trans rfl
      have d1 : W12.cell? ⟨r, 1, none⟩ = some (.int .i64 ((k1 : Int) - 1)) := (blk_cell hr12 1).trans rfl
      have hh12 := HH.out.mods hm12 (fun i hi e => HRN.out (by rw [← e]; exact hi))
      have HG12 := Aside0.mk (HGD.out W12 hh12)
      have HROW12 := Aside0.mk ((HROW9.out.mods hx11 (fun _ _ => id)).mods (Mods.setCell (Mods.refl (fun k => k = r) w11) (p := ⟨r, 1, none⟩) (.inl rfl) (.int .i64 ((k1 : Int) - 1))) (fun k hk hs => by have h1 := (HROW9.out.base_ k hk).1; have h2 := HRL.out; omega))
      rw [hW12] at HROW12
      have HMF := Aside0.mk hm12
      have HGF := Aside0.mk hg12
      have HRF := Aside0.mk hr12
      clear hx11 hr11 hg11 hm12 hr12 hg12 hh12 hkk
      by_cases hk0 : k1 = 0
      · have b1 : (k1 : Int) - 1 < 0 := by omega
        clear hk0
        have hgF' : W12.heap[gr]? = some (.cells #[.int .i64 0, .bool false, .slice none 0 0, .string ⟨#[]⟩, .int .i64 0, .slice none 0 0] 43 (0, 0)) := HGF.out
        obtain ⟨f0, f1, f2, f3, f4, f5⟩ := six_live hgF'
        obtain ⟨e0, e1, e2, e3, e4, e5⟩ := six_cells hgF'
        clear hgF'
        go_wp2_with fail
        refine bodyPost_ret (results_cell2 rfl _ _ gr 43 #[.int .i64 0, .bool false, .slice none 0 0, .string ⟨#[]⟩, .int .i64 0, .slice none 0 0] (0, 0) _ rfl (six_put HGF.out) Try.underlying43 rfl (by kernel_rfl)) rfl ?_
        exact ⟨rfl, mods_six HMF.out (.inr (by first | exact Nat.le_refl _ | (rw [hgr]; exact Nat.le_refl _)))⟩
      · have b1 : ¬ ((k1 : Int) - 1 < 0) := by omega
        go_wp2_with fail
        refine HG12.out.mono ?_
        rintro e w13 ⟨rfl, nd13, rfl⟩
        go_wp2_with fail
        go_roundg (k1 - 1)
        case measure => omega
        case rel => exact ⟨y2, nn + 1, _, rfl, HYC2, ⟨HROW12.out.mods ((Mods.refl (fun _ => False) W12).drewN nd13) (fun _ _ => id)⟩, by omega, ⟨by rw [show ((k1 - 1 : Nat) : Int) = (k1 : Int) - 1 by omega]; exact ((Mods.refl (fun _ => False) W12).drewN nd13).blk HRF.out id⟩, ⟨HMF.out.trans (((Mods.refl (fun _ => False) W12).drewN nd13).mono (S' := fun k => k = r) (fun i hi => hi.elim))⟩, ⟨((Mods.refl (fun _ => False) W12).drewN nd13).blk HGF.out id⟩⟩
end Go.Proofs.YtlifdpfhepamfaaRe
