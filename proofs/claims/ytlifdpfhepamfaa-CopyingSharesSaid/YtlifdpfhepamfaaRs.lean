/- The reader of terms: small numbers (Ri of XRgM, alone). -/
import Derived.Test.YtlifdpfhepamfaaRt
import Derived.Test.YtlifdpfhepamfaaNof
namespace Go.Proofs.YtlifdpfhepamfaaRs
open Go.RowKit Go.Maps Go.Proofs.YtlifdpfhepamfaaW.PrintWords Go.Proofs.YtlifdpfhepamfaaW.PrintLast Go.Proofs.YtlifdpfhepamfaaW.PrintMore Go.Proofs.YtlifdpfhepamfaaMem Go.Proofs.YtlifdpfhepamfaaLeaf Go.Proofs.YtlifdpfhepamfaaBits Go.Proofs.Ytlifdpfhepamfaa.PHe Go.Proofs.YtlifdpfhepamfaaRow Go.Proofs.YtlifdpfhepamfaaAr Go.Proofs.YtlifdpfhepamfaaHp Go.Proofs.YtlifdpfhepamfaaHn Go.Proofs.YtlifdpfhepamfaaHo Go.Proofs.YtlifdpfhepamfaaWd Go.Proofs.YtlifdpfhepamfaaRd Go.Proofs.YtlifdpfhepamfaaRt Go.Proofs.YtlifdpfhepamfaaNof Go.Proofs
set_option linter.unusedVariables false
set_option linter.unusedSimpArgs false
abbrev RL (W : World) (b : Nat) (A : Option Addr) (c : Nat) (xs : List Int) : Prop := Kd.R (Kd.int .u32) 102 W b (fun _ => True) (.slice A xs.length c) xs
theorem six_R {W : World} {b : Nat} {P : Nat → Prop} {v : Value} {xs : List Int} (h : Kd.R (Kd.int .u32) 102 W b P v xs) (g : Nat) (x0 x1 x2 x3 x4 x5 : Value) (hn : ∀ k, P k → k ≠ g) : Kd.R (Kd.int .u32) 102 ((((((W.setCell ⟨g, 0, none⟩ x0).setCell ⟨g, 1, none⟩ x1).setCell ⟨g, 2, none⟩ x2).setCell ⟨g, 3, none⟩ x3).setCell ⟨g, 4, none⟩ x4).setCell ⟨g, 5, none⟩ x5) b (fun _ => True) v xs :=
  Kd.R_mono (Kd.R_far (p := ⟨g, 5, none⟩) (Kd.R_far (p := ⟨g, 4, none⟩) (Kd.R_far (p := ⟨g, 3, none⟩) (Kd.R_far (p := ⟨g, 2, none⟩) (Kd.R_far (p := ⟨g, 1, none⟩) (Kd.R_far (p := ⟨g, 0, none⟩) h hn _) hn _) hn _) hn _) hn _) hn _) (fun _ _ => trivial)
theorem small_bd (z : Int) (h0 : -576460752303423488 ≤ z) (h1 : z < 576460752303423488) : 0 ≤ smallW z ∧ smallW z < 18446744073709551616 ∧ smallW z % 4 = 3 ∧ intOfI (smallW z) = (z, true) ∧ isCatchI (smallW z) = (0, false) ∧ decide (smallW z % 16 = 15) = false := by
  unfold smallW
  have e16 : (z % 1152921504606846976 * 16 + 3) % 16 = 3 := by omega
  refine ⟨by omega, by omega, by omega, ?_, ?_, ?_⟩
  · unfold intOfI
    rw [if_pos e16]
    congr 1
    unfold wrap64
    omega
  · unfold isCatchI
    rw [if_neg (by omega)]
  · rw [e16]; rfl
set_option maxHeartbeats 8000000 in
set_option maxRecDepth 100000 in
theorem term_int (w : World) (B h g gw m : Nat) (v : Value) (l : List Int) (n : Nat) (ns : List ByteArray) (r : Nat) (lf : Int) (z : Int) (H : Hp B w h g gw m v l n ns) (hr : w.heap[r]? = some (rdB h lf)) (hrn : ¬ SH h g gw m v r) (hf0 : 1 ≤ lf) (hf1 : lf ≤ 2000)
    (hz0 : -576460752303423488 ≤ z) (hz1 : z < 576460752303423488) :
    Calls Try.prog 94 #[.pointer (some ⟨r, 0, none⟩), .int .u64 (smallW z)] w fun e w' => ∃ A' c', e = .returned (.tuple #[tv 1 (decide (z < 0)) A' (limbs (absI z)).length c' ⟨#[]⟩ 0 none 0 0, .bool true]) ∧ RL w' w.heap.size A' c' (limbs (absI z)) ∧ Mods (fun k => k = r) w w' ∧ w'.heap[r]? = some (rdB h (lf - 1)) := by
  have hn := H.ar.2.2.1
  have hn2 := H.ar.2.2.2.1
  obtain ⟨x0, x1, x2, x3, x4, x5⟩ := small_bd z hz0 hz1
  have hgd : goodI l (smallW z) = true := by unfold goodI; rw [if_pos x2, x5]; rfl
  have hio := intOf_eq (smallW z)
  have htg := tag_eq (smallW z)
  have hcc := isCatch_eq _ x0 x1
  rw [x3] at hio
  rw [x2] at htg
  rw [x4] at hcc
  have HOF := Aside0.mk (fun W => of_own W z (by omega) (by omega))
  obtain ⟨L, hL⟩ : ∃ L, limbs (absI z) = L := ⟨_, rfl⟩
  rw [hL] at HOF
  obtain ⟨sg, hsg⟩ : ∃ sg, decide (z < 0) = sg := ⟨_, rfl⟩
  rw [hsg] at HOF
  rw [hL, hsg]
  obtain ⟨x, hx⟩ : ∃ x, smallW z = x := ⟨_, rfl⟩
  rw [hx] at hio htg hcc hgd x0 x1 ⊢
  obtain ⟨W0, hW0⟩ : ∃ W0, w.alloc (.cells #[.int .i64 0, .bool false, .slice none 0 0, .string ⟨#[]⟩, .int .i64 0, .slice none 0 0] 43) = W0 := ⟨_, rfl⟩
  obtain ⟨gr, hgr⟩ : ∃ gr, w.heap.size = gr := ⟨_, rfl⟩
  have hr0 : W0.heap[gr]? = some z6 := by rw [← hW0, ← hgr]; exact heap_alloc_new _ _
  have hb0 : Below w.heap.size w W0 := by rw [← hW0]; exact below_alloc (Below.refl _ _) _
  have hrr : W0.heap[r]? = some (rdB h lf) := (hb0.block _ (blk_lt hr)).trans hr
  have c1 : W0.cell? ⟨r, 1, none⟩ = some (.int .i64 lf) := (blk_cell hrr 1).trans rfl
  have f1 := blk_frozen hrr 1
  obtain ⟨W1, hW1⟩ : ∃ W1, W0.setCell ⟨r, 1, none⟩ (.int .i64 (lf - 1)) = W1 := ⟨_, rfl⟩
  have hm1 : Mods (fun k => k = r) w W1 := by rw [← hW1]; exact (Mods.of_below _ hb0).trans ((Mods.refl (fun k => k = r) W0).setCell (p := ⟨r, 1, none⟩) (.inl rfl) _)
  have hr1 : W1.heap[r]? = some (rdB h (lf - 1)) := by rw [← hW1]; exact blk_put hrr 1 _ rfl
  have hne : r ≠ gr := fun e => by have := blk_lt hr; omega
  have hg1 : W1.heap[gr]? = some z6 := by rw [← hW1]; exact (blk_far hr0 (p := ⟨r, 1, none⟩) (by first | exact hne | exact Ne.symm hne) _)
  have hh1 : Hp B W1 h g gw m v l n ns := H.mods hm1 (fun i hi e => hrn (by rw [← e]; exact hi))
  have d1 : W1.cell? ⟨r, 1, none⟩ = some (.int .i64 (lf - 1)) := (blk_cell hr1 1).trans rfl
  have d0 : W1.cell? ⟨r, 0, none⟩ = some (.pointer (some ⟨h, 0, none⟩)) := (blk_cell hr1 0).trans rfl
  have HM1 := Aside0.mk hm1
  have HR1 := Aside0.mk hr1
  have HG1 := Aside0.mk hg1
  have HIO := Aside0.mk (fun W => word_IntOf.calls x z true W hio)
  have HTG := Aside0.mk (fun W => word_Tag.calls x _ W htg)
  have HCC := Aside0.mk (fun W => word_IsCatch.calls x 0 false W hcc)
  have HGD := Aside0.mk (fun W (hH : Hp B W h g gw m v l n ns) => good_calls W B h g gw m v l n ns x hH x0 x1)
  rw [hgd] at HGD
  have HH1 := Aside0.mk hh1
  have hlt : ¬ (lf - 1 < 0) := by omega
  clear H hr hrn hgd hio htg hcc hL hsg hr0 hb0 hrr hm1 hr1 hg1 hh1 x2 x3 x4 x5 hx
  go_enter Try.func94, Try.ntmps94
  go_wp2_with fail
  refine (HCC.out _).mono ?_
  rintro e w2 ⟨rfl, nd2, rfl⟩
  clear c1 f1
  go_wp2_with fail
  refine (HGD.out _ (HH1.out.mods ((Mods.refl (fun _ => False) W1).drewN nd2) (fun _ _ => id))).mono ?_
  rintro e w3 ⟨rfl, nd3, rfl⟩
  go_wp2_with fail
  refine (HTG.out _).mono ?_
  rintro e w4 ⟨rfl, nd4, rfl⟩
  go_wp2_with fail
  refine (HIO.out _).mono ?_
  rintro e w5 ⟨rfl, nd5, rfl⟩
  obtain ⟨W5, hW5⟩ : ∃ W5, W1.drewN (nd2 + nd3 + nd4 + nd5) = W5 := ⟨_, rfl⟩
  have hm5 : Mods (fun _ => False) W1 W5 := by rw [← hW5]; exact (Mods.refl (fun _ => False) W1).drewN _
  have h5 := HH1.out.mods hm5 (fun _ _ => id)
  have hr5 : W5.heap[r]? = some (rdB h (lf - 1)) := hm5.blk HR1.out id
  have hg5 : W5.heap[gr]? = some z6 := hm5.blk HG1.out id
  have HG5 := Aside0.mk hg5
  have HR5 := Aside0.mk hr5
  have HM5 := Aside0.mk (HM1.out.trans (hm5.mono (S' := fun k => k = r) (fun i hi => hi.elim)))
  have HM15 := Aside0.mk hm5
  clear h5 hr5 hg5 hm5 d0 d1
  go_wp2_with fail
  refine (HOF.out _).mono ?_
  rintro e w6 ⟨u6, rfl, hRL, hb6⟩
  obtain ⟨A', c', rfl⟩ := Kd.R_slice hRL
  have hg6 : w6.heap[gr]? = some z6 := (hb6.block _ (blk_lt HG5.out)).trans HG5.out
  have HG6 := Aside0.mk hg6
  have HR6 := Aside0.mk ((hb6.block _ (blk_lt HR5.out)).trans HR5.out)
  have HRL := Aside0.mk (Kd.R_lower hRL (show w.heap.size ≤ W5.heap.size from HM5.out.size))
  have HM6 := Aside0.mk (HM5.out.then_below hb6)
  have hq9 := Kd.R_types HRL.out HG6.out (by decide)
  have g0 := blk_cell hg6
  have g1 := blk_frozen hg6
  clear hb6 hg6 hRL
  go_wp2_with fail
  refine bodyPost_ret (results_cell2 rfl _ _ gr 43 #[.int .i64 1, .bool sg, .slice A' L.length c', .string ⟨#[]⟩, .int .i64 0, .slice none 0 0] (0, 0) _ rfl (six_put HG6.out) Try.underlying43 rfl (by kernel_rfl)) rfl ?_
  exact ⟨A', c', rfl, six_R hq9 gr _ _ _ _ _ _ (fun _ hk => hk.2), mods_six HM6.out (.inr (by first | exact Nat.le_refl _ | (rw [hgr]; exact Nat.le_refl _))), (mods_six (Mods.refl (fun k => k = gr) w6) (.inl rfl)).blk HR6.out hne⟩
end Go.Proofs.YtlifdpfhepamfaaRs
