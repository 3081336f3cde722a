-- Printed by the kit's print.py from a list of bodies that this session turned in four places; parts of it are this session's own.
import Derived.Test.YtlifdpfhepamfaaPHe0
import Derived.Test.YtlifdpfhepamfaaPHe4
import Derived.Test.YtlifdpfhepamfaaPHe7
namespace Go.Proofs.Ytlifdpfhepamfaa.PHe
open Go.RowKit Go.Proofs.YtlifdpfhepamfaaW.PrintWords Go.Proofs.YtlifdpfhepamfaaW.PrintLast Go.Proofs.YtlifdpfhepamfaaW.PrintMore
attribute [local go_sem] max2_int min2_int max_two min_two max_three min_three max_four min_four   -- for this text's walks alone
set_option linter.unusedVariables false
set_option linter.unusedSimpArgs false

/-! ### relictref02_Int: function 109 -/
mutual
def relictref02_Int.l0 : Nat → Int → Int → Bool → List Int → Option (Int × Bool)
  | 0, _, _, _, _ => none
  | k + 1, x5, x6, x441000, x441001 => if x6 ≥ 0 then (if 0 ≤ x6 then (if x6 < (x441001.length : Int) then (relictref02_Int.l0 k (IntKind.u64.wrap ((IntKind.u64.wrap (x5 * 4294967296)) + (IntKind.u64.wrap (rd x441001 x6)))) (wrap64 (x6 - 1)) x441000 x441001) else (none)) else (none)) else (if x441000 = true then (relictref02_Int.j1 k x5 (decide (x5 ≤ 9223372036854775808)) x441000 x441001) else (relictref02_Int.j1 k x5 false x441000 x441001))
def relictref02_Int.j1 : Nat → Int → Bool → Bool → List Int → Option (Int × Bool)
  | 0, _, _, _, _ => none
  | k + 1, x5, x30, x441000, x441001 => if x30 = true then (some (wrap64 (IntKind.u64.wrap (-x5)), true)) else (if x441000 = true then (some (0, false)) else (if x5 < 9223372036854775808 then (some (wrap64 (x5), true)) else (some (0, false))))
end
def relictref02_Int.f (k : Nat) (a0_0 : Bool) (l0_1 : List Int) : Option (Int × Bool) := (relictref02_is.f a0_0 l0_1).bind fun bt436 => (if (bt436.2.length : Int) > 2 then (some (0, false)) else (relictref02_Int.l0 k 0 (wrap64 ((bt436.2.length : Int) - 1)) bt436.1 bt436.2))
theorem relictref02_Int.mono_l : ∀ k, (∀ y0 y1 y2 y3, LeO (relictref02_Int.l0 k y0 y1 y2 y3) (relictref02_Int.l0 (k + 1) y0 y1 y2 y3)) ∧ (∀ y0 y1 y2 y3, LeO (relictref02_Int.j1 k y0 y1 y2 y3) (relictref02_Int.j1 (k + 1) y0 y1 y2 y3))
  | 0 => ⟨fun _ _ _ _ r h => by simp [relictref02_Int.l0] at h, fun _ _ _ _ r h => by simp [relictref02_Int.j1] at h⟩
  | k + 1 => by
    obtain ⟨ih0, ih1⟩ := relictref02_Int.mono_l k
    refine ⟨?_, ?_⟩
    · intro y0 y1 y2 y3
      unfold relictref02_Int.l0
      repeat' first
      | (with_reducible exact ih0 _ _ _ _)
      | (with_reducible exact ih1 _ _ _ _)
      | (with_reducible exact LeO.refl _)
      | (with_reducible exact LeO.none _)
      | (with_reducible refine LeO.ite ?_ ?_)
      | (with_reducible refine LeO.bind ?_ (fun _ => ?_))
      | exact ih0 _ _ _ _
      | exact ih1 _ _ _ _
      | exact LeO.none _
      | refine LeO.ite ?_ ?_
      | refine LeO.bind ?_ (fun _ => ?_)
    · intro y0 y1 y2 y3
      unfold relictref02_Int.j1
      repeat' first
      | (with_reducible exact ih0 _ _ _ _)
      | (with_reducible exact ih1 _ _ _ _)
      | (with_reducible exact LeO.refl _)
      | (with_reducible exact LeO.none _)
      | (with_reducible refine LeO.ite ?_ ?_)
      | (with_reducible refine LeO.bind ?_ (fun _ => ?_))
      | exact ih0 _ _ _ _
      | exact ih1 _ _ _ _
      | exact LeO.none _
      | refine LeO.ite ?_ ?_
      | refine LeO.bind ?_ (fun _ => ?_)
theorem relictref02_Int.mono : ∀ a0 a1 k, LeO (relictref02_Int.f k a0 a1) (relictref02_Int.f (k + 1) a0 a1) := by
  intro a0 a1 k
  obtain ⟨ih0, ih1⟩ := relictref02_Int.mono_l k
  unfold relictref02_Int.f
  repeat' first
      | (with_reducible exact ih0 _ _ _ _)
      | (with_reducible exact ih1 _ _ _ _)
      | (with_reducible exact LeO.refl _)
      | (with_reducible exact LeO.none _)
      | (with_reducible refine LeO.ite ?_ ?_)
      | (with_reducible refine LeO.bind ?_ (fun _ => ?_))
      | exact ih0 _ _ _ _
      | exact ih1 _ _ _ _
      | exact LeO.none _
      | refine LeO.ite ?_ ?_
      | refine LeO.bind ?_ (fun _ => ?_)
set_option maxHeartbeats 8000000 in
set_option maxRecDepth 100000 in
theorem relictref02_Int.calls (k : Nat) (a0_0 : Bool) (P0_1_ : Nat → Prop) (u9000_ : Value) (l0_1 : List Int) (r1 : Int) (r2 : Bool) (w0 w : World) (hB : Below w0.heap.size w0 w) (ho0_1 : Kd.R (Kd.int .u32) 102 w w0.heap.size P0_1_ u9000_ l0_1) (h : relictref02_Int.f k a0_0 l0_1 = some (r1, r2)) :
    Calls Try.prog 109 #[.agg #[.bool a0_0, u9000_]] w fun e w' => e = .returned (.tuple #[.int .i64 r1, .bool r2]) ∧ Below w0.heap.size w0 w' ∧ Kept w w' (fun k_ => P0_1_ k_) := by
  have hu41 := Try.underlying41
  have HO0_1 := Aside0.mk (show Kd.R (Kd.int .u32) 102 w w0.heap.size (fun k_ => (P0_1_ k_ ∨ w.heap.size ≤ k_)) u9000_ l0_1 from Kd.R_mono ho0_1 (fun k_ hk => (.inl hk)))
  have HK := Aside0.mk (Kept.refl w (fun k_ => P0_1_ k_))
  have HW0 := Aside0.mk hB.size
  have HB := Aside0.mk hB
  clear hB
  have H : ((relictref02_is.f a0_0 l0_1).bind fun bt436 => (if (bt436.2.length : Int) > 2 then (some (0, false)) else (relictref02_Int.l0 k 0 (wrap64 ((bt436.2.length : Int) - 1)) bt436.1 bt436.2))) = some (r1, r2) := h
  clear h
  replace H := Option.bind_eq_some_iff.mp H
  obtain ⟨⟨t436, t437⟩, A20, H⟩ := H
  replace H : (if (t437.length : Int) > 2 then (some (0, false)) else (relictref02_Int.l0 k 0 (wrap64 ((t437.length : Int) - 1)) t436 t437)) = some (r1, r2) := H
  have A2 := Aside0.mk A20
  clear A20
  by_cases c3 : (t437.length : Int) > 2
  · rw [if_pos c3] at H
    have c3b0 : decide (2 < (t437.length : Int)) = true := decide_eq_true c3
    have c3b1 : decide (2 < t437.length) = true := decide_eq_true (by omega)
    clear c3
    simp only [Option.some.injEq, Prod.mk.injEq] at H
    obtain ⟨rfl, rfl⟩ := H
    obtain ⟨Ao4, co4, eo4⟩ := Kd.R_slice HO0_1.out
    subst eo4
    go_enter Try.func109, Try.ntmps109
    go_wp2_with (first | ((with_reducible refine gate_dst (N := 1) rfl ?_); refine box_event ?hg (N := 1) ?hd (cs := #[.bool a0_0, .slice Ao4 l0_1.length co4]) (t := 41) ?hr ?_; (case hd => rfl); (case hg => rfl); (case hr => first | (go_simp; done) | (go_simp; rfl)); intro gb435 hg w5 hbox hb; have n0_ := Aside0.mk (Kd.R_below (by (with_reducible repeat (first | apply Kd.R_alloc | apply Kd.R_drewN | apply Kd.R_drew)); exact HO0_1.out) hb); have n1_ := Aside0.mk (Kept.below (S := (fun k_ => P0_1_ k_)) (by repeat (first | (with_reducible first | exact HK.out | apply Kept.alloc | apply Kept.drewN | apply Kept.drew) | exact HK.out)) hb); have n2_ := Aside0.mk (below_step (by repeat (first | (with_reducible first | exact HB.out | apply below_alloc | apply pw_below_drewN | apply below_drew1) | exact HB.out)) hb); have n3_ := Aside0.mk (hbox); have n4_ := Aside0.mk ((by rw [hg]; exact (by first | exact HK.out.1 | exact (show Kept w _ (fun k_ => P0_1_ k_) from by repeat (first | (with_reducible first | exact HK.out | apply Kept.alloc | apply Kept.drewN | apply Kept.drew) | exact HK.out)).1) : w.heap.size ≤ gb435)); have n5_ := Aside0.mk ((by rw [hg]; exact (below_size (by repeat (first | (with_reducible first | exact HB.out | apply below_alloc | apply pw_below_drewN | apply below_drew1) | exact HB.out))) : w0.heap.size ≤ gb435)); clear HO0_1; clear HK; clear HB; have HO0_1 := n0_; have HK := n1_; have HB := n2_; have BK435 := n3_; have GW435 := n4_; have GE435 := n5_; clear n0_ n1_ n2_ n3_ n4_ n5_; clear hb hbox hg; have hcz6_0 : w5.cell? ⟨gb435, 0, none⟩ = some (.bool a0_0) := (blk_cell BK435.out 0).trans rfl; have hcz6_1 : w5.cell? ⟨gb435, 1, none⟩ = some (.slice Ao4 l0_1.length co4) := (blk_cell BK435.out 1).trans rfl; have hfz6_0 := blk_frozen BK435.out 0; have hfz6_1 := blk_frozen BK435.out 1) | ((with_reducible refine gate_callee (f := 86) rfl ?_); refine goesL_ (some 8) rfl rfl Try.func86 (by kernel_rfl) rfl #[.agg #[.bool a0_0, .slice Ao4 l0_1.length co4]] rfl (by (try simp only [List.map_toArray, List.map_cons, List.map_nil]); first | done | rfl | (simp only [List.length_drop, List.length_take]; rfl)) ?_; (with_reducible refine (relictref02_is.calls a0_0 (fun k_ => some k_ = (.slice Ao4 l0_1.length co4 : Value).ownBlock) (.slice Ao4 l0_1.length co4) l0_1 t436 t437 w0 _ ?side1 ?side2 A2.out).mono ?_); (case side1 => repeat (first | (with_reducible first | exact HB.out | apply below_alloc | apply pw_below_drewN | apply below_drew1 | refine below_set ?_ GE435.out) | exact HB.out)); (case side2 => exact Kd.R_tight rfl HO0_1.out); rintro e w7 ⟨v438, rfl, ho0, hb, hkp⟩; refine ⟨_, rfl, ?_⟩; have n0_ := Aside0.mk (blk_kept (by (with_reducible repeat (first | refine blk_drewN ?_ _ | refine blk_drew ?_ | refine blk_alloc ?_ _)); exact BK435.out) hkp (fun hs_ => (fun e_ => (Kd.R_ne HO0_1.out BK435.out (by decide)) e_) hs_)); have n1_ := Aside0.mk (Kd.R_mono (ok' := fun k_ => (P0_1_ k_ ∨ w.heap.size ≤ k_)) ho0 (fun k_ hk_ => Or.elim hk_ (fun hs_ => (HO0_1.out.1 k_ (hs_).symm)) (fun hn_ => (.inr (Nat.le_trans (by first | exact HK.out.1 | exact (show Kept w _ (fun k_ => P0_1_ k_) from by repeat (first | (with_reducible first | exact HK.out | apply Kept.alloc | apply Kept.drewN | apply Kept.drew | refine Kept.setCell ?_ (.inr GW435.out) _) | exact HK.out)).1) hn_))))); have n2_ := Aside0.mk (Kept.then_ (S := (fun k_ => P0_1_ k_)) (by repeat (first | (with_reducible first | exact HK.out | apply Kept.alloc | apply Kept.drewN | apply Kept.drew | refine Kept.setCell ?_ (.inr GW435.out) _) | exact HK.out)) hkp (fun k_ hs_ => (fun e_ => (HO0_1.out.1 k_ e_.symm)) hs_)); have n3_ := Aside0.mk (hb); clear BK435; clear HK; clear HB; clear HO0_1; have BK435 := n0_; have HO439 := n1_; have HK := n2_; have HB := n3_; clear n0_ n1_ n2_ n3_; (try clear hb); (try clear hkp); (try clear ho0)) | ((with_reducible refine gate_dst (N := 4) rfl ?_); refine box_event ?hg (N := 4) ?hd (cs := #[.bool false, .slice none 0 0]) (t := 41) ?hr ?_; (case hd => rfl); (case hg => rfl); (case hr => first | (go_simp; done) | (go_simp; rfl)); intro gb440 hg w8 hbox hb; have n0_ := Aside0.mk (Kd.R_below (by (with_reducible repeat (first | apply Kd.R_alloc | apply Kd.R_drewN | apply Kd.R_drew)); exact HO439.out) hb); have n1_ := Aside0.mk (blk_below (g := gb435) (o := .cells #[.bool a0_0, .slice Ao4 l0_1.length co4] 41 (0, 0)) (by (with_reducible repeat (first | refine blk_drewN ?_ _ | refine blk_drew ?_ | refine blk_alloc ?_ _)); exact BK435.out) hb); have n2_ := Aside0.mk (Kept.below (S := (fun k_ => P0_1_ k_)) (by repeat (first | (with_reducible first | exact HK.out | apply Kept.alloc | apply Kept.drewN | apply Kept.drew | refine Kept.setCell ?_ (.inr GW435.out) _) | exact HK.out)) hb); have n3_ := Aside0.mk (below_step (by repeat (first | (with_reducible first | exact HB.out | apply below_alloc | apply pw_below_drewN | apply below_drew1 | refine below_set ?_ GE435.out) | exact HB.out)) hb); have n4_ := Aside0.mk (hbox); have n5_ := Aside0.mk ((by rw [hg]; exact (by first | exact HK.out.1 | exact (show Kept w _ (fun k_ => P0_1_ k_) from by repeat (first | (with_reducible first | exact HK.out | apply Kept.alloc | apply Kept.drewN | apply Kept.drew | refine Kept.setCell ?_ (.inr GW435.out) _) | exact HK.out)).1) : w.heap.size ≤ gb440)); have n6_ := Aside0.mk ((by rw [hg]; exact (below_size (by repeat (first | (with_reducible first | exact HB.out | apply below_alloc | apply pw_below_drewN | apply below_drew1 | refine below_set ?_ GE435.out) | exact HB.out))) : w0.heap.size ≤ gb440)); have n7_ := Aside0.mk ((by rw [hg]; exact Nat.ne_of_lt (blk_lt (g := gb435) (o := .cells #[.bool a0_0, .slice Ao4 l0_1.length co4] 41 (0, 0)) (by (with_reducible repeat (first | refine blk_drewN ?_ _ | refine blk_drew ?_ | refine blk_alloc ?_ _)); exact BK435.out)) : gb435 ≠ gb440)); have n8_ := Aside0.mk ((by rw [hg]; exact Nat.ne_of_gt (blk_lt (g := gb435) (o := .cells #[.bool a0_0, .slice Ao4 l0_1.length co4] 41 (0, 0)) (by (with_reducible repeat (first | refine blk_drewN ?_ _ | refine blk_drew ?_ | refine blk_alloc ?_ _)); exact BK435.out)) : gb440 ≠ gb435)); clear HO439; clear BK435; clear HK; clear HB; have HO439 := n0_; have BK435 := n1_; have HK := n2_; have HB := n3_; have BK440 := n4_; have GW440 := n5_; have GE440 := n6_; have NB435_440 := n7_; have NB440_435 := n8_; clear n0_ n1_ n2_ n3_ n4_ n5_ n6_ n7_ n8_; clear hb hbox hg; have hnb9 := NB440_435.out; have hnc9 := NB435_440.out; have hcz10_0 : w8.cell? ⟨gb440, 0, none⟩ = some (.bool false) := (blk_cell BK440.out 0).trans rfl; have hcz10_1 : w8.cell? ⟨gb440, 1, none⟩ = some (.slice none 0 0) := (blk_cell BK440.out 1).trans rfl; have hfz10_0 := blk_frozen BK440.out 0; have hfz10_1 := blk_frozen BK440.out 1; obtain ⟨Ao11, co11, eo11⟩ := Kd.R_slice HO439.out; subst eo11))
    go_ret2
    exact ⟨by first | rfl | (simp [errW_none, errW_some] <;> rfl) | (simp [*, errW_none, errW_some] <;> rfl), by repeat (first | (with_reducible first | exact HB.out | apply below_alloc | apply pw_below_drewN | apply below_drew1 | refine below_set ?_ GE435.out | refine below_set ?_ GE440.out) | exact HB.out), by repeat (first | (with_reducible first | exact HK.out | apply Kept.alloc | apply Kept.drewN | apply Kept.drew | refine Kept.setCell ?_ (.inr GW435.out) _ | refine Kept.setCell ?_ (.inr GW440.out) _) | exact HK.out)⟩
  · rw [if_neg c3] at H
    have c3b0 : decide (2 < (t437.length : Int)) = false := decide_eq_false c3
    have c3b1 : decide (2 < t437.length) = false := decide_eq_false (by omega)
    clear c3
    have H' := Aside0.mk H
    clear H
    obtain ⟨Ao12, co12, eo12⟩ := Kd.R_slice HO0_1.out
    subst eo12
    go_enter Try.func109, Try.ntmps109
    go_wp2_with (first | ((with_reducible refine gate_dst (N := 1) rfl ?_); refine box_event ?hg (N := 1) ?hd (cs := #[.bool a0_0, .slice Ao12 l0_1.length co12]) (t := 41) ?hr ?_; (case hd => rfl); (case hg => rfl); (case hr => first | (go_simp; done) | (go_simp; rfl)); intro gb435 hg w13 hbox hb; have n0_ := Aside0.mk (Kd.R_below (by (with_reducible repeat (first | apply Kd.R_alloc | apply Kd.R_drewN | apply Kd.R_drew)); exact HO0_1.out) hb); have n1_ := Aside0.mk (Kept.below (S := (fun k_ => P0_1_ k_)) (by repeat (first | (with_reducible first | exact HK.out | apply Kept.alloc | apply Kept.drewN | apply Kept.drew) | exact HK.out)) hb); have n2_ := Aside0.mk (below_step (by repeat (first | (with_reducible first | exact HB.out | apply below_alloc | apply pw_below_drewN | apply below_drew1) | exact HB.out)) hb); have n3_ := Aside0.mk (hbox); have n4_ := Aside0.mk ((by rw [hg]; exact (by first | exact HK.out.1 | exact (show Kept w _ (fun k_ => P0_1_ k_) from by repeat (first | (with_reducible first | exact HK.out | apply Kept.alloc | apply Kept.drewN | apply Kept.drew) | exact HK.out)).1) : w.heap.size ≤ gb435)); have n5_ := Aside0.mk ((by rw [hg]; exact (below_size (by repeat (first | (with_reducible first | exact HB.out | apply below_alloc | apply pw_below_drewN | apply below_drew1) | exact HB.out))) : w0.heap.size ≤ gb435)); clear HO0_1; clear HK; clear HB; have HO0_1 := n0_; have HK := n1_; have HB := n2_; have BK435 := n3_; have GW435 := n4_; have GE435 := n5_; clear n0_ n1_ n2_ n3_ n4_ n5_; clear hb hbox hg; have hcz14_0 : w13.cell? ⟨gb435, 0, none⟩ = some (.bool a0_0) := (blk_cell BK435.out 0).trans rfl; have hcz14_1 : w13.cell? ⟨gb435, 1, none⟩ = some (.slice Ao12 l0_1.length co12) := (blk_cell BK435.out 1).trans rfl; have hfz14_0 := blk_frozen BK435.out 0; have hfz14_1 := blk_frozen BK435.out 1) | ((with_reducible refine gate_callee (f := 86) rfl ?_); refine goesL_ (some 8) rfl rfl Try.func86 (by kernel_rfl) rfl #[.agg #[.bool a0_0, .slice Ao12 l0_1.length co12]] rfl (by (try simp only [List.map_toArray, List.map_cons, List.map_nil]); first | done | rfl | (simp only [List.length_drop, List.length_take]; rfl)) ?_; (with_reducible refine (relictref02_is.calls a0_0 (fun k_ => some k_ = (.slice Ao12 l0_1.length co12 : Value).ownBlock) (.slice Ao12 l0_1.length co12) l0_1 t436 t437 w0 _ ?side1 ?side2 A2.out).mono ?_); (case side1 => repeat (first | (with_reducible first | exact HB.out | apply below_alloc | apply pw_below_drewN | apply below_drew1 | refine below_set ?_ GE435.out) | exact HB.out)); (case side2 => exact Kd.R_tight rfl HO0_1.out); rintro e w15 ⟨v438, rfl, ho0, hb, hkp⟩; refine ⟨_, rfl, ?_⟩; have n0_ := Aside0.mk (blk_kept (by (with_reducible repeat (first | refine blk_drewN ?_ _ | refine blk_drew ?_ | refine blk_alloc ?_ _)); exact BK435.out) hkp (fun hs_ => (fun e_ => (Kd.R_ne HO0_1.out BK435.out (by decide)) e_) hs_)); have n1_ := Aside0.mk (Kd.R_mono (ok' := fun k_ => (P0_1_ k_ ∨ w.heap.size ≤ k_)) ho0 (fun k_ hk_ => Or.elim hk_ (fun hs_ => (HO0_1.out.1 k_ (hs_).symm)) (fun hn_ => (.inr (Nat.le_trans (by first | exact HK.out.1 | exact (show Kept w _ (fun k_ => P0_1_ k_) from by repeat (first | (with_reducible first | exact HK.out | apply Kept.alloc | apply Kept.drewN | apply Kept.drew | refine Kept.setCell ?_ (.inr GW435.out) _) | exact HK.out)).1) hn_))))); have n2_ := Aside0.mk (Kept.then_ (S := (fun k_ => P0_1_ k_)) (by repeat (first | (with_reducible first | exact HK.out | apply Kept.alloc | apply Kept.drewN | apply Kept.drew | refine Kept.setCell ?_ (.inr GW435.out) _) | exact HK.out)) hkp (fun k_ hs_ => (fun e_ => (HO0_1.out.1 k_ e_.symm)) hs_)); have n3_ := Aside0.mk (hb); clear BK435; clear HK; clear HB; clear HO0_1; have BK435 := n0_; have HO439 := n1_; have HK := n2_; have HB := n3_; clear n0_ n1_ n2_ n3_; (try clear hb); (try clear hkp); (try clear ho0)) | ((with_reducible refine gate_dst (N := 4) rfl ?_); refine box_event ?hg (N := 4) ?hd (cs := #[.bool false, .slice none 0 0]) (t := 41) ?hr ?_; (case hd => rfl); (case hg => rfl); (case hr => first | (go_simp; done) | (go_simp; rfl)); intro gb440 hg w16 hbox hb; have n0_ := Aside0.mk (Kd.R_below (by (with_reducible repeat (first | apply Kd.R_alloc | apply Kd.R_drewN | apply Kd.R_drew)); exact HO439.out) hb); have n1_ := Aside0.mk (blk_below (g := gb435) (o := .cells #[.bool a0_0, .slice Ao12 l0_1.length co12] 41 (0, 0)) (by (with_reducible repeat (first | refine blk_drewN ?_ _ | refine blk_drew ?_ | refine blk_alloc ?_ _)); exact BK435.out) hb); have n2_ := Aside0.mk (Kept.below (S := (fun k_ => P0_1_ k_)) (by repeat (first | (with_reducible first | exact HK.out | apply Kept.alloc | apply Kept.drewN | apply Kept.drew | refine Kept.setCell ?_ (.inr GW435.out) _) | exact HK.out)) hb); have n3_ := Aside0.mk (below_step (by repeat (first | (with_reducible first | exact HB.out | apply below_alloc | apply pw_below_drewN | apply below_drew1 | refine below_set ?_ GE435.out) | exact HB.out)) hb); have n4_ := Aside0.mk (hbox); have n5_ := Aside0.mk ((by rw [hg]; exact (by first | exact HK.out.1 | exact (show Kept w _ (fun k_ => P0_1_ k_) from by repeat (first | (with_reducible first | exact HK.out | apply Kept.alloc | apply Kept.drewN | apply Kept.drew | refine Kept.setCell ?_ (.inr GW435.out) _) | exact HK.out)).1) : w.heap.size ≤ gb440)); have n6_ := Aside0.mk ((by rw [hg]; exact (below_size (by repeat (first | (with_reducible first | exact HB.out | apply below_alloc | apply pw_below_drewN | apply below_drew1 | refine below_set ?_ GE435.out) | exact HB.out))) : w0.heap.size ≤ gb440)); have n7_ := Aside0.mk ((by rw [hg]; exact Nat.ne_of_lt (blk_lt (g := gb435) (o := .cells #[.bool a0_0, .slice Ao12 l0_1.length co12] 41 (0, 0)) (by (with_reducible repeat (first | refine blk_drewN ?_ _ | refine blk_drew ?_ | refine blk_alloc ?_ _)); exact BK435.out)) : gb435 ≠ gb440)); have n8_ := Aside0.mk ((by rw [hg]; exact Nat.ne_of_gt (blk_lt (g := gb435) (o := .cells #[.bool a0_0, .slice Ao12 l0_1.length co12] 41 (0, 0)) (by (with_reducible repeat (first | refine blk_drewN ?_ _ | refine blk_drew ?_ | refine blk_alloc ?_ _)); exact BK435.out)) : gb440 ≠ gb435)); clear HO439; clear BK435; clear HK; clear HB; have HO439 := n0_; have BK435 := n1_; have HK := n2_; have HB := n3_; have BK440 := n4_; have GW440 := n5_; have GE440 := n6_; have NB435_440 := n7_; have NB440_435 := n8_; clear n0_ n1_ n2_ n3_ n4_ n5_ n6_ n7_ n8_; clear hb hbox hg; have hnb17 := NB440_435.out; have hnc17 := NB435_440.out; have hcz18_0 : w16.cell? ⟨gb440, 0, none⟩ = some (.bool false) := (blk_cell BK440.out 0).trans rfl; have hcz18_1 : w16.cell? ⟨gb440, 1, none⟩ = some (.slice none 0 0) := (blk_cell BK440.out 1).trans rfl; have hfz18_0 := blk_frozen BK440.out 0; have hfz18_1 := blk_frozen BK440.out 1; obtain ⟨Ao19, co19, eo19⟩ := Kd.R_slice HO439.out; subst eo19))
    go_loopg [5, 6] k (fun kq v5 v6 w' => ∃ (x5_1 : Int) (x6_1 : Int), v5 = .int .u64 x5_1 ∧ v6 = .int .i64 x6_1 ∧ Aside0 (relictref02_Int.l0 kq x5_1 x6_1 t436 t437 = some (r1, r2)) ∧ Aside0 (kq ≤ k) ∧ Aside0 (Kd.R (Kd.int .u32) 102 w' w0.heap.size (fun k_ => (P0_1_ k_ ∨ w.heap.size ≤ k_)) (.slice Ao19 t437.length co19) t437) ∧ Aside0 (w'.heap[gb435]? = some (.cells #[.bool a0_0, (.slice Ao12 l0_1.length co12)] 41 (0, 0))) ∧ Aside0 (w'.heap[gb440]? = some (.cells #[.bool t436, (.slice Ao19 t437.length co19)] 41 (0, 0))) ∧ Aside0 (Kept w w' (fun k_ => P0_1_ k_)) ∧ Aside0 (Below w0.heap.size w0 w'))
    case atStart => exact ⟨(0), (wrap64 ((t437.length : Int) - 1)), (by first | rfl | (simp; done) | (simp [*]; done)), (by first | rfl | (simp; done) | (simp [*]; done)), H', ⟨Nat.le_refl _⟩, ⟨by (with_reducible repeat (first | apply Kd.R_alloc | apply Kd.R_drewN | apply Kd.R_drew)); exact Kd.R_mono (Kd.R_far (p := ⟨gb440, 1, none⟩) (Kd.R_far (p := ⟨gb440, 0, none⟩) (Kd.R_types HO439.out BK440.out (by decide)) (fun _ hk => hk.2) (.bool t436)) (fun _ hk => hk.2) (.slice Ao19 t437.length co19)) (fun _ hk => hk.1)⟩, ⟨by (with_reducible repeat (first | refine blk_drewN ?_ _ | refine blk_drew ?_ | refine blk_alloc ?_ _)); refine blk_far ?_ NB435_440.out _; (with_reducible repeat (first | refine blk_drewN ?_ _ | refine blk_drew ?_ | refine blk_alloc ?_ _)); refine blk_far ?_ NB435_440.out _; (with_reducible repeat (first | refine blk_drewN ?_ _ | refine blk_drew ?_ | refine blk_alloc ?_ _)); exact BK435.out⟩, ⟨by (with_reducible repeat (first | refine blk_drewN ?_ _ | refine blk_drew ?_ | refine blk_alloc ?_ _)); refine blk_put (cs := #[.bool t436, .slice none 0 0]) ?_ 1 _ rfl; (with_reducible repeat (first | refine blk_drewN ?_ _ | refine blk_drew ?_ | refine blk_alloc ?_ _)); refine blk_put (cs := #[.bool false, .slice none 0 0]) ?_ 0 _ rfl; (with_reducible repeat (first | refine blk_drewN ?_ _ | refine blk_drew ?_ | refine blk_alloc ?_ _)); exact BK440.out⟩, ⟨by repeat (first | (with_reducible first | exact HK.out | apply Kept.alloc | apply Kept.drewN | apply Kept.drew | refine Kept.setCell ?_ (.inr GW435.out) _ | refine Kept.setCell ?_ (.inr GW440.out) _) | exact HK.out)⟩, ⟨by repeat (first | (with_reducible first | exact HB.out | apply below_alloc | apply pw_below_drewN | apply below_drew1 | refine below_set ?_ GE435.out | refine below_set ?_ GE440.out) | exact HB.out)⟩⟩
    case round =>
      clear H'
      try clear c1
      try clear p2
      try clear c3
      try clear c3b0
      try clear c3b1
      try clear p6
      try clear c8
      try clear c9
      try clear c10
      try clear c17
      try clear hcz10_0
      try clear hcz10_1
      try clear hcz14_0
      try clear hcz14_1
      try clear hcz18_0
      try clear hcz18_1
      try clear hcz6_0
      try clear hcz6_1
      try clear hfz10_0
      try clear hfz10_1
      try clear hfz14_0
      try clear hfz14_1
      try clear hfz18_0
      try clear hfz18_1
      try clear hfz6_0
      try clear hfz6_1
      obtain ⟨x5_1, x6_1, rfl, rfl, HA, HK1, HO_441001, BK435, BK440, HK, HB⟩ := hrel
      cases gk with
      | zero => exact absurd HA.out (by simp [relictref02_Int.l0])
      | succ k1 =>
        have H := HA.out
        clear HA
        simp only [relictref02_Int.l0] at H
        by_cases c20 : x6_1 ≥ 0
        · rw [if_pos c20] at H
          have c20b0 : decide (0 ≤ x6_1) = true := decide_eq_true c20
          clear c20
          by_cases c21 : 0 ≤ x6_1
          · rw [if_pos c21] at H
            have c21b0 : decide (0 ≤ x6_1) = true := decide_eq_true c21
            clear c21
            by_cases c22 : x6_1 < (t437.length : Int)
            · rw [if_pos c22] at H
              have c22b0 : decide (x6_1 < (t437.length : Int)) = true := decide_eq_true c22
              clear c22
              have H' := Aside0.mk H
              clear H
              have hnb23 := NB440_435.out
              have hnc23 := NB435_440.out
              have hcz24_0 : wr.cell? ⟨gb440, 0, none⟩ = some (.bool t436) := (blk_cell BK440.out 0).trans rfl
              have hcz24_1 : wr.cell? ⟨gb440, 1, none⟩ = some (.slice Ao19 t437.length co19) := (blk_cell BK440.out 1).trans rfl
              have hfz24_0 := blk_frozen BK440.out 0
              have hfz24_1 := blk_frozen BK440.out 1
              have p441 : 0 ≤ (x6_1 : Int) := of_decide_eq_true (by first | (with_reducible assumption) | assumption)
              have q441 : x6_1 < (t437.length : Int) := of_decide_eq_true (by first | (with_reducible assumption) | assumption)
              obtain ⟨ad441, e441, hx441_0⟩ := Kd.at_int (Kd.R_reads' HO_441001.out).2.2 x6_1 p441 q441
              cases e441
              replace p441 := eq_true p441
              replace q441 := eq_true q441
              go_wp2
              go_roundg k1
              case measure => have := HK1.out; omega
              case rel => exact ⟨(IntKind.u64.wrap ((IntKind.u64.wrap (x5_1 * 4294967296)) + (IntKind.u64.wrap (rd t437 x6_1)))), (wrap64 (x6_1 - 1)), (by first | rfl | (simp; done) | (simp [*]; done)), (by first | rfl | (simp; done) | (simp [*]; done)), H', ⟨by have := HK1.out; omega⟩, ⟨by (with_reducible repeat (first | apply Kd.R_alloc | apply Kd.R_drewN | apply Kd.R_drew)); exact HO_441001.out⟩, ⟨by (with_reducible repeat (first | refine blk_drewN ?_ _ | refine blk_drew ?_ | refine blk_alloc ?_ _)); exact BK435.out⟩, ⟨by (with_reducible repeat (first | refine blk_drewN ?_ _ | refine blk_drew ?_ | refine blk_alloc ?_ _)); exact BK440.out⟩, ⟨by repeat (first | (with_reducible first | exact HK.out | apply Kept.alloc | apply Kept.drewN | apply Kept.drew | refine Kept.setCell ?_ (.inr GW435.out) _ | refine Kept.setCell ?_ (.inr GW440.out) _) | exact HK.out)⟩, ⟨by repeat (first | (with_reducible first | exact HB.out | apply below_alloc | apply pw_below_drewN | apply below_drew1 | refine below_set ?_ GE435.out | refine below_set ?_ GE440.out) | exact HB.out)⟩⟩
            · rw [if_neg c22] at H
              exact absurd H (by simp)
          · rw [if_neg c21] at H
            exact absurd H (by simp)
        · rw [if_neg c20] at H
          have c20b0 : decide (0 ≤ x6_1) = false := decide_eq_false c20
          clear c20
          have HC25 := Aside0.mk H
          clear H
          go_upto_region 9 with (fail)
          go_cut [30] (fun v30 wc => ∃ (kq : Nat) (x30_24 : Bool), v30 = .bool x30_24 ∧ Aside0 (relictref02_Int.j1 kq x5_1 x30_24 t436 t437 = some (r1, r2)) ∧ Aside0 (kq ≤ k1) ∧ Aside0 (Kd.R (Kd.int .u32) 102 wc w0.heap.size (fun k_ => (P0_1_ k_ ∨ w.heap.size ≤ k_)) (.slice Ao19 t437.length co19) t437) ∧ Aside0 (wc.heap[gb435]? = some (.cells #[.bool a0_0, (.slice Ao12 l0_1.length co12)] 41 (0, 0))) ∧ Aside0 (wc.heap[gb440]? = some (.cells #[.bool t436, (.slice Ao19 t437.length co19)] 41 (0, 0))) ∧ Aside0 (Kept w wc (fun k_ => P0_1_ k_)) ∧ Aside0 (Below w0.heap.size w0 wc))
          case first =>
            have H := HC25.out
            clear HC25
            by_cases c26 : t436 = true
            · subst c26
              have H1 : (relictref02_Int.j1 k1 x5_1 (decide (x5_1 ≤ 9223372036854775808)) true t437) = some (r1, r2) := by rw [if_pos rfl] at H; exact H
              clear H
              have H := H1
              clear H1
              have H' := Aside0.mk H
              clear H
              have hnb27 := NB440_435.out
              have hnc27 := NB435_440.out
              have hcz28_0 : wr.cell? ⟨gb440, 0, none⟩ = some (.bool true) := (blk_cell BK440.out 0).trans rfl
              have hcz28_1 : wr.cell? ⟨gb440, 1, none⟩ = some (.slice Ao19 t437.length co19) := (blk_cell BK440.out 1).trans rfl
              have hfz28_0 := blk_frozen BK440.out 0
              have hfz28_1 := blk_frozen BK440.out 1
              go_wp2
              go_meet
              case rel => exact ⟨_, (decide (x5_1 ≤ 9223372036854775808)), (by first | rfl | (simp; done) | (simp [*]; done)), H', ⟨by have := HK1.out; first | omega | exact Nat.le_refl _⟩, ⟨by (with_reducible repeat (first | apply Kd.R_alloc | apply Kd.R_drewN | apply Kd.R_drew)); exact HO_441001.out⟩, ⟨by (with_reducible repeat (first | refine blk_drewN ?_ _ | refine blk_drew ?_ | refine blk_alloc ?_ _)); exact BK435.out⟩, ⟨by (with_reducible repeat (first | refine blk_drewN ?_ _ | refine blk_drew ?_ | refine blk_alloc ?_ _)); exact BK440.out⟩, ⟨by repeat (first | (with_reducible first | exact HK.out | apply Kept.alloc | apply Kept.drewN | apply Kept.drew | refine Kept.setCell ?_ (.inr GW435.out) _ | refine Kept.setCell ?_ (.inr GW440.out) _) | exact HK.out)⟩, ⟨by repeat (first | (with_reducible first | exact HB.out | apply below_alloc | apply pw_below_drewN | apply below_drew1 | refine below_set ?_ GE435.out | refine below_set ?_ GE440.out) | exact HB.out)⟩⟩
            · replace c26 := Bool.eq_false_iff.mpr c26
              subst c26
              have H1 : (relictref02_Int.j1 k1 x5_1 false false t437) = some (r1, r2) := by rw [if_neg (show ¬ (false = true) by decide)] at H; exact H
              clear H
              have H := H1
              clear H1
              have H' := Aside0.mk H
              clear H
              have hnb29 := NB440_435.out
              have hnc29 := NB435_440.out
              have hcz30_0 : wr.cell? ⟨gb440, 0, none⟩ = some (.bool false) := (blk_cell BK440.out 0).trans rfl
              have hcz30_1 : wr.cell? ⟨gb440, 1, none⟩ = some (.slice Ao19 t437.length co19) := (blk_cell BK440.out 1).trans rfl
              have hfz30_0 := blk_frozen BK440.out 0
              have hfz30_1 := blk_frozen BK440.out 1
              go_wp2
              go_meet
              case rel => exact ⟨_, (false), (by first | rfl | (simp; done) | (simp [*]; done)), H', ⟨by have := HK1.out; first | omega | exact Nat.le_refl _⟩, ⟨by (with_reducible repeat (first | apply Kd.R_alloc | apply Kd.R_drewN | apply Kd.R_drew)); exact HO_441001.out⟩, ⟨by (with_reducible repeat (first | refine blk_drewN ?_ _ | refine blk_drew ?_ | refine blk_alloc ?_ _)); exact BK435.out⟩, ⟨by (with_reducible repeat (first | refine blk_drewN ?_ _ | refine blk_drew ?_ | refine blk_alloc ?_ _)); exact BK440.out⟩, ⟨by repeat (first | (with_reducible first | exact HK.out | apply Kept.alloc | apply Kept.drewN | apply Kept.drew | refine Kept.setCell ?_ (.inr GW435.out) _ | refine Kept.setCell ?_ (.inr GW440.out) _) | exact HK.out)⟩, ⟨by repeat (first | (with_reducible first | exact HB.out | apply below_alloc | apply pw_below_drewN | apply below_drew1 | refine below_set ?_ GE435.out | refine below_set ?_ GE440.out) | exact HB.out)⟩⟩
          case rest =>
            clear HC25
            try clear c1
            try clear c2
            try clear p2
            try clear c3
            try clear c3b0
            try clear c3b1
            try clear p4
            try clear q4
            try clear hx4
            try clear p6
            try clear c8
            try clear c9
            try clear c10
            try clear c17
            try clear c20
            try clear c20b0
            try clear c21
            try clear c21b0
            try clear c22
            try clear c22b0
            try clear c23
            try clear c26
            try clear c27
            try clear c29
            try clear hcz10_0
            try clear hcz10_1
            try clear hcz14_0
            try clear hcz14_1
            try clear hcz18_0
            try clear hcz18_1
            try clear hcz24_0
            try clear hcz24_1
            try clear hcz28_0
            try clear hcz28_1
            try clear hcz30_0
            try clear hcz30_1
            try clear hcz6_0
            try clear hcz6_1
            try clear hfz10_0
            try clear hfz10_1
            try clear hfz14_0
            try clear hfz14_1
            try clear hfz18_0
            try clear hfz18_1
            try clear hfz24_0
            try clear hfz24_1
            try clear hfz28_0
            try clear hfz28_1
            try clear hfz30_0
            try clear hfz30_1
            try clear hfz6_0
            try clear hfz6_1
            try clear hx441_0
            try clear p2
            try clear p441
            try clear p6
            try clear q441
            obtain ⟨kq, x30_24, rfl, HA, HJ24, HO_441001, BK435, BK440, HK, HB⟩ := hcut
            cases kq with
            | zero => exact absurd HA.out (by simp [relictref02_Int.j1])
            | succ kj24 =>
              have H := HA.out
              clear HA
              simp only [relictref02_Int.j1] at H
              by_cases c31 : x30_24 = true
              · subst c31
                have H1 : (some (wrap64 (IntKind.u64.wrap (-x5_1)), true)) = some (r1, r2) := by rw [if_pos rfl] at H; exact H
                clear H
                have H := H1
                clear H1
                simp only [Option.some.injEq, Prod.mk.injEq] at H
                obtain ⟨rfl, rfl⟩ := H
                go_wp2
                go_ret2
                exact ⟨by first | rfl | (simp [errW_none, errW_some] <;> rfl) | (simp [*, errW_none, errW_some] <;> rfl), by repeat (first | (with_reducible first | exact HB.out | apply below_alloc | apply pw_below_drewN | apply below_drew1 | refine below_set ?_ GE435.out | refine below_set ?_ GE440.out) | exact HB.out), by repeat (first | (with_reducible first | exact HK.out | apply Kept.alloc | apply Kept.drewN | apply Kept.drew | refine Kept.setCell ?_ (.inr GW435.out) _ | refine Kept.setCell ?_ (.inr GW440.out) _) | exact HK.out)⟩
              · replace c31 := Bool.eq_false_iff.mpr c31
                subst c31
                have H1 : (if t436 = true then (some (0, false)) else (if x5_1 < 9223372036854775808 then (some (wrap64 (x5_1), true)) else (some (0, false)))) = some (r1, r2) := by rw [if_neg (show ¬ (false = true) by decide)] at H; exact H
                clear H
                have H := H1
                clear H1
                by_cases c32 : t436 = true
                · subst c32
                  have H1 : (some (0, false)) = some (r1, r2) := by rw [if_pos rfl] at H; exact H
                  clear H
                  have H := H1
                  clear H1
                  simp only [Option.some.injEq, Prod.mk.injEq] at H
                  obtain ⟨rfl, rfl⟩ := H
                  have hnb33 := NB440_435.out
                  have hnc33 := NB435_440.out
                  have hcz34_0 : wc.cell? ⟨gb440, 0, none⟩ = some (.bool true) := (blk_cell BK440.out 0).trans rfl
                  have hcz34_1 : wc.cell? ⟨gb440, 1, none⟩ = some (.slice Ao19 t437.length co19) := (blk_cell BK440.out 1).trans rfl
                  have hfz34_0 := blk_frozen BK440.out 0
                  have hfz34_1 := blk_frozen BK440.out 1
                  go_wp2
                  go_ret2
                  exact ⟨by first | rfl | (simp [errW_none, errW_some] <;> rfl) | (simp [*, errW_none, errW_some] <;> rfl), by repeat (first | (with_reducible first | exact HB.out | apply below_alloc | apply pw_below_drewN | apply below_drew1 | refine below_set ?_ GE435.out | refine below_set ?_ GE440.out) | exact HB.out), by repeat (first | (with_reducible first | exact HK.out | apply Kept.alloc | apply Kept.drewN | apply Kept.drew | refine Kept.setCell ?_ (.inr GW435.out) _ | refine Kept.setCell ?_ (.inr GW440.out) _) | exact HK.out)⟩
                · replace c32 := Bool.eq_false_iff.mpr c32
                  subst c32
                  have H1 : (if x5_1 < 9223372036854775808 then (some (wrap64 (x5_1), true)) else (some (0, false))) = some (r1, r2) := by rw [if_neg (show ¬ (false = true) by decide)] at H; exact H
                  clear H
                  have H := H1
                  clear H1
                  by_cases c35 : x5_1 < 9223372036854775808
                  · rw [if_pos c35] at H
                    have c35b0 : decide (x5_1 < 9223372036854775808) = true := decide_eq_true c35
                    clear c35
                    simp only [Option.some.injEq, Prod.mk.injEq] at H
                    obtain ⟨rfl, rfl⟩ := H
                    have hnb36 := NB440_435.out
                    have hnc36 := NB435_440.out
                    have hcz37_0 : wc.cell? ⟨gb440, 0, none⟩ = some (.bool false) := (blk_cell BK440.out 0).trans rfl
                    have hcz37_1 : wc.cell? ⟨gb440, 1, none⟩ = some (.slice Ao19 t437.length co19) := (blk_cell BK440.out 1).trans rfl
                    have hfz37_0 := blk_frozen BK440.out 0
                    have hfz37_1 := blk_frozen BK440.out 1
                    go_wp2
                    go_ret2
                    exact ⟨by first | rfl | (simp [errW_none, errW_some] <;> rfl) | (simp [*, errW_none, errW_some] <;> rfl), by repeat (first | (with_reducible first | exact HB.out | apply below_alloc | apply pw_below_drewN | apply below_drew1 | refine below_set ?_ GE435.out | refine below_set ?_ GE440.out) | exact HB.out), by repeat (first | (with_reducible first | exact HK.out | apply Kept.alloc | apply Kept.drewN | apply Kept.drew | refine Kept.setCell ?_ (.inr GW435.out) _ | refine Kept.setCell ?_ (.inr GW440.out) _) | exact HK.out)⟩
                  · rw [if_neg c35] at H
                    have c35b0 : decide (x5_1 < 9223372036854775808) = false := decide_eq_false c35
                    clear c35
                    simp only [Option.some.injEq, Prod.mk.injEq] at H
                    obtain ⟨rfl, rfl⟩ := H
                    have hnb38 := NB440_435.out
                    have hnc38 := NB435_440.out
                    have hcz39_0 : wc.cell? ⟨gb440, 0, none⟩ = some (.bool false) := (blk_cell BK440.out 0).trans rfl
                    have hcz39_1 : wc.cell? ⟨gb440, 1, none⟩ = some (.slice Ao19 t437.length co19) := (blk_cell BK440.out 1).trans rfl
                    have hfz39_0 := blk_frozen BK440.out 0
                    have hfz39_1 := blk_frozen BK440.out 1
                    go_wp2
                    go_ret2
                    exact ⟨by first | rfl | (simp [errW_none, errW_some] <;> rfl) | (simp [*, errW_none, errW_some] <;> rfl), by repeat (first | (with_reducible first | exact HB.out | apply below_alloc | apply pw_below_drewN | apply below_drew1 | refine below_set ?_ GE435.out | refine below_set ?_ GE440.out) | exact HB.out), by repeat (first | (with_reducible first | exact HK.out | apply Kept.alloc | apply Kept.drewN | apply Kept.drew | refine Kept.setCell ?_ (.inr GW435.out) _ | refine Kept.setCell ?_ (.inr GW440.out) _) | exact HK.out)⟩

/-! ### relictref02_far: function 92 -/
def relictref02_far.f (k : Nat) (a0_0 : Bool) (l0_1 : List Int) : Option (Int) := (relictref02_Int.f k a0_0 l0_1).bind fun bt443 => (if bt443.2 = true then (some (mn (mx bt443.1 (-10001)) 10001)) else (if a0_0 = true then (some (-10001)) else (some 10001)))
theorem relictref02_far.mono : ∀ a0 a1 k, LeO (relictref02_far.f k a0 a1) (relictref02_far.f (k + 1) a0 a1) := by
  intro a0 a1 k
  unfold relictref02_far.f
  repeat' first
      | (with_reducible exact relictref02_Int.mono _ _ _)
      | (with_reducible exact LeO.refl _)
      | (with_reducible exact LeO.none _)
      | (with_reducible refine LeO.ite ?_ ?_)
      | (with_reducible refine LeO.bind ?_ (fun _ => ?_))
      | exact relictref02_Int.mono _ _ _
      | exact LeO.none _
      | refine LeO.ite ?_ ?_
      | refine LeO.bind ?_ (fun _ => ?_)
set_option maxHeartbeats 8000000 in
set_option maxRecDepth 100000 in
theorem relictref02_far.calls (k : Nat) (a0_0 : Bool) (P0_1_ : Nat → Prop) (u9000_ : Value) (l0_1 : List Int) (r : Int) (w0 w : World) (hB : Below w0.heap.size w0 w) (ho0_1 : Kd.R (Kd.int .u32) 102 w w0.heap.size P0_1_ u9000_ l0_1) (h : relictref02_far.f k a0_0 l0_1 = some r) :
    Calls Try.prog 92 #[.agg #[.bool a0_0, u9000_]] w fun e w' => e = .returned (.int .i64 r) ∧ Below w0.heap.size w0 w' ∧ Kept w w' (fun k_ => P0_1_ k_) := by
  have hu41 := Try.underlying41
  have HO0_1 := Aside0.mk (show Kd.R (Kd.int .u32) 102 w w0.heap.size (fun k_ => (P0_1_ k_ ∨ w.heap.size ≤ k_)) u9000_ l0_1 from Kd.R_mono ho0_1 (fun k_ hk => (.inl hk)))
  have HK := Aside0.mk (Kept.refl w (fun k_ => P0_1_ k_))
  have HW0 := Aside0.mk hB.size
  have HB := Aside0.mk hB
  clear hB
  have H : ((relictref02_Int.f k a0_0 l0_1).bind fun bt443 => (if bt443.2 = true then (some (mn (mx bt443.1 (-10001)) 10001)) else (if a0_0 = true then (some (-10001)) else (some 10001)))) = some r := h
  clear h
  replace H := Option.bind_eq_some_iff.mp H
  obtain ⟨⟨t443, t444⟩, A20, H⟩ := H
  replace H : (if t444 = true then (some (mn (mx t443 (-10001)) 10001)) else (if a0_0 = true then (some (-10001)) else (some 10001))) = some r := H
  have A2 := Aside0.mk A20
  clear A20
  by_cases c3 : t444 = true
  · subst c3
    have H1 : (some (mn (mx t443 (-10001)) 10001)) = some r := by rw [if_pos rfl] at H; exact H
    clear H
    have H := H1
    clear H1
    obtain ⟨ji4, hji4⟩ : ∃ j_ : Int, (mx t443 (-10001)) = j_ := ⟨_, rfl⟩
    replace H : (some (mn (ji4) 10001)) = some r := by first | (rw [hji4] at H; exact H) | (simp only [hji4] at H ⊢; exact H)
    (try rw [hji4] at A2)
    have hji4_ : (if t443 < (-10001) then (-10001) else t443) = ji4 := hji4
    obtain ⟨ji5, hji5⟩ : ∃ j_ : Int, (mn (ji4) 10001) = j_ := ⟨_, rfl⟩
    replace H : (some ji5) = some r := by first | (rw [hji5] at H; exact H) | (simp only [hji5] at H ⊢; exact H)
    (try rw [hji5] at A2)
    have hji5_ : (if 10001 < (ji4) then 10001 else (ji4)) = ji5 := hji5
    obtain rfl := Option.some.inj H
    obtain ⟨Ao6, co6, eo6⟩ := Kd.R_slice HO0_1.out
    subst eo6
    go_enter Try.func92, Try.ntmps92
    go_wp2_with (first | ((with_reducible refine gate_dst (N := 1) rfl ?_); refine box_event ?hg (N := 1) ?hd (cs := #[.bool a0_0, .slice Ao6 l0_1.length co6]) (t := 41) ?hr ?_; (case hd => rfl); (case hg => rfl); (case hr => first | (go_simp; done) | (go_simp; rfl)); intro gb442 hg w7 hbox hb; have n0_ := Aside0.mk (Kd.R_below (by (with_reducible repeat (first | apply Kd.R_alloc | apply Kd.R_drewN | apply Kd.R_drew)); exact HO0_1.out) hb); have n1_ := Aside0.mk (Kept.below (S := (fun k_ => P0_1_ k_)) (by repeat (first | (with_reducible first | exact HK.out | apply Kept.alloc | apply Kept.drewN | apply Kept.drew) | exact HK.out)) hb); have n2_ := Aside0.mk (below_step (by repeat (first | (with_reducible first | exact HB.out | apply below_alloc | apply pw_below_drewN | apply below_drew1) | exact HB.out)) hb); have n3_ := Aside0.mk (hbox); have n4_ := Aside0.mk ((by rw [hg]; exact (by first | exact HK.out.1 | exact (show Kept w _ (fun k_ => P0_1_ k_) from by repeat (first | (with_reducible first | exact HK.out | apply Kept.alloc | apply Kept.drewN | apply Kept.drew) | exact HK.out)).1) : w.heap.size ≤ gb442)); have n5_ := Aside0.mk ((by rw [hg]; exact (below_size (by repeat (first | (with_reducible first | exact HB.out | apply below_alloc | apply pw_below_drewN | apply below_drew1) | exact HB.out))) : w0.heap.size ≤ gb442)); clear HO0_1; clear HK; clear HB; have HO0_1 := n0_; have HK := n1_; have HB := n2_; have BK442 := n3_; have GW442 := n4_; have GE442 := n5_; clear n0_ n1_ n2_ n3_ n4_ n5_; clear hb hbox hg; have hcz8_0 : w7.cell? ⟨gb442, 0, none⟩ = some (.bool a0_0) := (blk_cell BK442.out 0).trans rfl; have hcz8_1 : w7.cell? ⟨gb442, 1, none⟩ = some (.slice Ao6 l0_1.length co6) := (blk_cell BK442.out 1).trans rfl; have hfz8_0 := blk_frozen BK442.out 0; have hfz8_1 := blk_frozen BK442.out 1) | ((with_reducible refine gate_callee (f := 109) rfl ?_); refine goesL_ (some 7) rfl rfl Try.func109 (by kernel_rfl) rfl #[.agg #[.bool a0_0, .slice Ao6 l0_1.length co6]] rfl (by (try simp only [List.map_toArray, List.map_cons, List.map_nil]); first | done | rfl | (simp only [List.length_drop, List.length_take]; rfl)) ?_; (with_reducible refine (relictref02_Int.calls k a0_0 (fun k_ => some k_ = (.slice Ao6 l0_1.length co6 : Value).ownBlock) (.slice Ao6 l0_1.length co6) l0_1 t443 true w0 _ ?side1 ?side2 A2.out).mono ?_); (case side1 => repeat (first | (with_reducible first | exact HB.out | apply below_alloc | apply pw_below_drewN | apply below_drew1 | refine below_set ?_ GE442.out) | exact HB.out)); (case side2 => exact Kd.R_tight rfl HO0_1.out); rintro e w9 ⟨rfl, hb, hkp⟩; refine ⟨_, rfl, ?_⟩; have n0_ := Aside0.mk (blk_kept (by (with_reducible repeat (first | refine blk_drewN ?_ _ | refine blk_drew ?_ | refine blk_alloc ?_ _)); exact BK442.out) hkp (fun hs_ => (fun e_ => (Kd.R_ne HO0_1.out BK442.out (by decide)) e_) hs_)); have n1_ := Aside0.mk (Kept.then_ (S := (fun k_ => P0_1_ k_)) (by repeat (first | (with_reducible first | exact HK.out | apply Kept.alloc | apply Kept.drewN | apply Kept.drew | refine Kept.setCell ?_ (.inr GW442.out) _) | exact HK.out)) hkp (fun k_ hs_ => (fun e_ => (HO0_1.out.1 k_ e_.symm)) hs_)); have n2_ := Aside0.mk (hb); clear BK442; clear HK; clear HB; clear HO0_1; have BK442 := n0_; have HK := n1_; have HB := n2_; clear n0_ n1_ n2_; (try clear hb); (try clear hkp)))
    go_ret
    exact ⟨by first | rfl | (simp [errW_none, errW_some] <;> rfl) | (simp only [← hji4, ← hji5]; first | rfl | (simp [errW_none, errW_some] <;> rfl)) | (simp [*, errW_none, errW_some] <;> rfl), by repeat (first | (with_reducible first | exact HB.out | apply below_alloc | apply pw_below_drewN | apply below_drew1 | refine below_set ?_ GE442.out) | exact HB.out), by repeat (first | (with_reducible first | exact HK.out | apply Kept.alloc | apply Kept.drewN | apply Kept.drew | refine Kept.setCell ?_ (.inr GW442.out) _) | exact HK.out)⟩
  · replace c3 := Bool.eq_false_iff.mpr c3
    subst c3
    have H1 : (if a0_0 = true then (some (-10001)) else (some 10001)) = some r := by rw [if_neg (show ¬ (false = true) by decide)] at H; exact H
    clear H
    have H := H1
    clear H1
    by_cases c10 : a0_0 = true
    · subst c10
      have H1 : (some (-10001)) = some r := by rw [if_pos rfl] at H; exact H
      clear H
      have H := H1
      clear H1
      obtain rfl := Option.some.inj H
      obtain ⟨Ao11, co11, eo11⟩ := Kd.R_slice HO0_1.out
      subst eo11
      go_enter Try.func92, Try.ntmps92
      go_wp2_with (first | ((with_reducible refine gate_dst (N := 1) rfl ?_); refine box_event ?hg (N := 1) ?hd (cs := #[.bool true, .slice Ao11 l0_1.length co11]) (t := 41) ?hr ?_; (case hd => rfl); (case hg => rfl); (case hr => first | (go_simp; done) | (go_simp; rfl)); intro gb442 hg w12 hbox hb; have n0_ := Aside0.mk (Kd.R_below (by (with_reducible repeat (first | apply Kd.R_alloc | apply Kd.R_drewN | apply Kd.R_drew)); exact HO0_1.out) hb); have n1_ := Aside0.mk (Kept.below (S := (fun k_ => P0_1_ k_)) (by repeat (first | (with_reducible first | exact HK.out | apply Kept.alloc | apply Kept.drewN | apply Kept.drew) | exact HK.out)) hb); have n2_ := Aside0.mk (below_step (by repeat (first | (with_reducible first | exact HB.out | apply below_alloc | apply pw_below_drewN | apply below_drew1) | exact HB.out)) hb); have n3_ := Aside0.mk (hbox); have n4_ := Aside0.mk ((by rw [hg]; exact (by first | exact HK.out.1 | exact (show Kept w _ (fun k_ => P0_1_ k_) from by repeat (first | (with_reducible first | exact HK.out | apply Kept.alloc | apply Kept.drewN | apply Kept.drew) | exact HK.out)).1) : w.heap.size ≤ gb442)); have n5_ := Aside0.mk ((by rw [hg]; exact (below_size (by repeat (first | (with_reducible first | exact HB.out | apply below_alloc | apply pw_below_drewN | apply below_drew1) | exact HB.out))) : w0.heap.size ≤ gb442)); clear HO0_1; clear HK; clear HB; have HO0_1 := n0_; have HK := n1_; have HB := n2_; have BK442 := n3_; have GW442 := n4_; have GE442 := n5_; clear n0_ n1_ n2_ n3_ n4_ n5_; clear hb hbox hg; have hcz13_0 : w12.cell? ⟨gb442, 0, none⟩ = some (.bool true) := (blk_cell BK442.out 0).trans rfl; have hcz13_1 : w12.cell? ⟨gb442, 1, none⟩ = some (.slice Ao11 l0_1.length co11) := (blk_cell BK442.out 1).trans rfl; have hfz13_0 := blk_frozen BK442.out 0; have hfz13_1 := blk_frozen BK442.out 1) | ((with_reducible refine gate_callee (f := 109) rfl ?_); refine goesL_ (some 7) rfl rfl Try.func109 (by kernel_rfl) rfl #[.agg #[.bool true, .slice Ao11 l0_1.length co11]] rfl (by (try simp only [List.map_toArray, List.map_cons, List.map_nil]); first | done | rfl | (simp only [List.length_drop, List.length_take]; rfl)) ?_; (with_reducible refine (relictref02_Int.calls k true (fun k_ => some k_ = (.slice Ao11 l0_1.length co11 : Value).ownBlock) (.slice Ao11 l0_1.length co11) l0_1 t443 false w0 _ ?side1 ?side2 A2.out).mono ?_); (case side1 => repeat (first | (with_reducible first | exact HB.out | apply below_alloc | apply pw_below_drewN | apply below_drew1 | refine below_set ?_ GE442.out) | exact HB.out)); (case side2 => exact Kd.R_tight rfl HO0_1.out); rintro e w14 ⟨rfl, hb, hkp⟩; refine ⟨_, rfl, ?_⟩; have n0_ := Aside0.mk (blk_kept (by (with_reducible repeat (first | refine blk_drewN ?_ _ | refine blk_drew ?_ | refine blk_alloc ?_ _)); exact BK442.out) hkp (fun hs_ => (fun e_ => (Kd.R_ne HO0_1.out BK442.out (by decide)) e_) hs_)); have n1_ := Aside0.mk (Kept.then_ (S := (fun k_ => P0_1_ k_)) (by repeat (first | (with_reducible first | exact HK.out | apply Kept.alloc | apply Kept.drewN | apply Kept.drew | refine Kept.setCell ?_ (.inr GW442.out) _) | exact HK.out)) hkp (fun k_ hs_ => (fun e_ => (HO0_1.out.1 k_ e_.symm)) hs_)); have n2_ := Aside0.mk (hb); clear BK442; clear HK; clear HB; clear HO0_1; have BK442 := n0_; have HK := n1_; have HB := n2_; clear n0_ n1_ n2_; (try clear hb); (try clear hkp); have hcz15_0 : w14.cell? ⟨gb442, 0, none⟩ = some (.bool true) := (blk_cell BK442.out 0).trans rfl; have hcz15_1 : w14.cell? ⟨gb442, 1, none⟩ = some (.slice Ao11 l0_1.length co11) := (blk_cell BK442.out 1).trans rfl; have hfz15_0 := blk_frozen BK442.out 0; have hfz15_1 := blk_frozen BK442.out 1))
      go_ret
      exact ⟨by first | rfl | (simp [errW_none, errW_some] <;> rfl) | (simp [*, errW_none, errW_some] <;> rfl), by repeat (first | (with_reducible first | exact HB.out | apply below_alloc | apply pw_below_drewN | apply below_drew1 | refine below_set ?_ GE442.out) | exact HB.out), by repeat (first | (with_reducible first | exact HK.out | apply Kept.alloc | apply Kept.drewN | apply Kept.drew | refine Kept.setCell ?_ (.inr GW442.out) _) | exact HK.out)⟩
    · replace c10 := Bool.eq_false_iff.mpr c10
      subst c10
      have H1 : (some 10001) = some r := by rw [if_neg (show ¬ (false = true) by decide)] at H; exact H
      clear H
      have H := H1
      clear H1
      obtain rfl := Option.some.inj H
      obtain ⟨Ao16, co16, eo16⟩ := Kd.R_slice HO0_1.out
      subst eo16
      go_enter Try.func92, Try.ntmps92
      go_wp2_with (first | ((with_reducible refine gate_dst (N := 1) rfl ?_); refine box_event ?hg (N := 1) ?hd (cs := #[.bool false, .slice Ao16 l0_1.length co16]) (t := 41) ?hr ?_; (case hd => rfl); (case hg => rfl); (case hr => first | (go_simp; done) | (go_simp; rfl)); intro gb442 hg w17 hbox hb; have n0_ := Aside0.mk (Kd.R_below (by (with_reducible repeat (first | apply Kd.R_alloc | apply Kd.R_drewN | apply Kd.R_drew)); exact HO0_1.out) hb); have n1_ := Aside0.mk (Kept.below (S := (fun k_ => P0_1_ k_)) (by repeat (first | (with_reducible first | exact HK.out | apply Kept.alloc | apply Kept.drewN | apply Kept.drew) | exact HK.out)) hb); have n2_ := Aside0.mk (below_step (by repeat (first | (with_reducible first | exact HB.out | apply below_alloc | apply pw_below_drewN | apply below_drew1) | exact HB.out)) hb); have n3_ := Aside0.mk (hbox); have n4_ := Aside0.mk ((by rw [hg]; exact (by first | exact HK.out.1 | exact (show Kept w _ (fun k_ => P0_1_ k_) from by repeat (first | (with_reducible first | exact HK.out | apply Kept.alloc | apply Kept.drewN | apply Kept.drew) | exact HK.out)).1) : w.heap.size ≤ gb442)); have n5_ := Aside0.mk ((by rw [hg]; exact (below_size (by repeat (first | (with_reducible first | exact HB.out | apply below_alloc | apply pw_below_drewN | apply below_drew1) | exact HB.out))) : w0.heap.size ≤ gb442)); clear HO0_1; clear HK; clear HB; have HO0_1 := n0_; have HK := n1_; have HB := n2_; have BK442 := n3_; have GW442 := n4_; have GE442 := n5_; clear n0_ n1_ n2_ n3_ n4_ n5_; clear hb hbox hg; have hcz18_0 : w17.cell? ⟨gb442, 0, none⟩ = some (.bool false) := (blk_cell BK442.out 0).trans rfl; have hcz18_1 : w17.cell? ⟨gb442, 1, none⟩ = some (.slice Ao16 l0_1.length co16) := (blk_cell BK442.out 1).trans rfl; have hfz18_0 := blk_frozen BK442.out 0; have hfz18_1 := blk_frozen BK442.out 1) | ((with_reducible refine gate_callee (f := 109) rfl ?_); refine goesL_ (some 7) rfl rfl Try.func109 (by kernel_rfl) rfl #[.agg #[.bool false, .slice Ao16 l0_1.length co16]] rfl (by (try simp only [List.map_toArray, List.map_cons, List.map_nil]); first | done | rfl | (simp only [List.length_drop, List.length_take]; rfl)) ?_; (with_reducible refine (relictref02_Int.calls k false (fun k_ => some k_ = (.slice Ao16 l0_1.length co16 : Value).ownBlock) (.slice Ao16 l0_1.length co16) l0_1 t443 false w0 _ ?side1 ?side2 A2.out).mono ?_); (case side1 => repeat (first | (with_reducible first | exact HB.out | apply below_alloc | apply pw_below_drewN | apply below_drew1 | refine below_set ?_ GE442.out) | exact HB.out)); (case side2 => exact Kd.R_tight rfl HO0_1.out); rintro e w19 ⟨rfl, hb, hkp⟩; refine ⟨_, rfl, ?_⟩; have n0_ := Aside0.mk (blk_kept (by (with_reducible repeat (first | refine blk_drewN ?_ _ | refine blk_drew ?_ | refine blk_alloc ?_ _)); exact BK442.out) hkp (fun hs_ => (fun e_ => (Kd.R_ne HO0_1.out BK442.out (by decide)) e_) hs_)); have n1_ := Aside0.mk (Kept.then_ (S := (fun k_ => P0_1_ k_)) (by repeat (first | (with_reducible first | exact HK.out | apply Kept.alloc | apply Kept.drewN | apply Kept.drew | refine Kept.setCell ?_ (.inr GW442.out) _) | exact HK.out)) hkp (fun k_ hs_ => (fun e_ => (HO0_1.out.1 k_ e_.symm)) hs_)); have n2_ := Aside0.mk (hb); clear BK442; clear HK; clear HB; clear HO0_1; have BK442 := n0_; have HK := n1_; have HB := n2_; clear n0_ n1_ n2_; (try clear hb); (try clear hkp); have hcz20_0 : w19.cell? ⟨gb442, 0, none⟩ = some (.bool false) := (blk_cell BK442.out 0).trans rfl; have hcz20_1 : w19.cell? ⟨gb442, 1, none⟩ = some (.slice Ao16 l0_1.length co16) := (blk_cell BK442.out 1).trans rfl; have hfz20_0 := blk_frozen BK442.out 0; have hfz20_1 := blk_frozen BK442.out 1))
      go_ret
      exact ⟨by first | rfl | (simp [errW_none, errW_some] <;> rfl) | (simp [*, errW_none, errW_some] <;> rfl), by repeat (first | (with_reducible first | exact HB.out | apply below_alloc | apply pw_below_drewN | apply below_drew1 | refine below_set ?_ GE442.out) | exact HB.out), by repeat (first | (with_reducible first | exact HK.out | apply Kept.alloc | apply Kept.drewN | apply Kept.drew | refine Kept.setCell ?_ (.inr GW442.out) _) | exact HK.out)⟩

/-! ### relictref01_Shr: function 138 -/
end Go.Proofs.Ytlifdpfhepamfaa.PHe
