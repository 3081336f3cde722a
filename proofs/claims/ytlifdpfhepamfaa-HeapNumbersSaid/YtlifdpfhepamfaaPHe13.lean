-- Printed by the kit's print.py from a list of bodies that this session turned in four places; parts of it are this session's own.
import Derived.Test.YtlifdpfhepamfaaPHe0
import Derived.Test.YtlifdpfhepamfaaPHe4
import Derived.Test.YtlifdpfhepamfaaPHe7
import Derived.Test.YtlifdpfhepamfaaPHe9
import Derived.Test.YtlifdpfhepamfaaPHe12
namespace Go.Proofs.Ytlifdpfhepamfaa.PHe
open Go.RowKit Go.Proofs.YtlifdpfhepamfaaW.PrintWords Go.Proofs.YtlifdpfhepamfaaW.PrintLast Go.Proofs.YtlifdpfhepamfaaW.PrintMore
attribute [local go_sem] max2_int min2_int max_two min_two max_three min_three max_four min_four   -- for this text's walks alone
set_option linter.unusedVariables false
set_option linter.unusedSimpArgs false

/-! ### relictref02_shift: function 93 -/
mutual
def relictref02_shift.j0 : Nat → Int → Bool → Bool → List Int → Option (Bool × List Int × Bool)
  | 0, _, _, _, _ => none
  | k + 1, x1, x18, x454000, x454001 => if x18 = true then (some (false, ([] : List Int), false)) else (relictref02_shift.l0 k x454001 (mn x1 10000) x454000 x454001)
def relictref02_shift.l0 : Nat → List Int → Int → Bool → List Int → Option (Bool × List Int × Bool)
  | 0, _, _, _, _ => none
  | k + 1, x8, x9, x454000, x454001 => if x9 > 0 then ((relictref01_Shl.f k x8 (mn x9 32)).bind fun t455 => (if (t455.length : Int) > 12 then (some (false, ([] : List Int), false)) else (relictref02_shift.l0 k t455 (wrap64 (x9 - 32)) x454000 x454001))) else ((relictref02_made.f k x454000 x8).bind fun bt458 => (some (bt458.1, bt458.2.1, bt458.2.2)))
def relictref02_shift.j2 : Nat → Int → Bool → List Int → Option (Bool × List Int × Bool)
  | 0, _, _, _ => none
  | _ + 1, _, _, _ => none
end
def relictref02_shift.f (k : Nat) (a0_0 : Bool) (l0_1 : List Int) (a1 : Int) (a2 : Bool) : Option (Bool × List Int × Bool) := if a2 = true then (if a1 > 10000 then (relictref02_shift.j0 k a1 (decide ((l0_1.length : Int) > 0)) a0_0 l0_1) else (relictref02_shift.j0 k a1 false a0_0 l0_1)) else (if a1 > 10000 then (relictref02_shift.j2 k 10000 a0_0 l0_1) else (relictref02_shift.j2 k a1 a0_0 l0_1))
theorem relictref02_shift.mono_l : ∀ k, (∀ y0 y1 y2 y3, LeO (relictref02_shift.j0 k y0 y1 y2 y3) (relictref02_shift.j0 (k + 1) y0 y1 y2 y3)) ∧ (∀ y0 y1 y2 y3, LeO (relictref02_shift.l0 k y0 y1 y2 y3) (relictref02_shift.l0 (k + 1) y0 y1 y2 y3)) ∧ (∀ y0 y1 y2, LeO (relictref02_shift.j2 k y0 y1 y2) (relictref02_shift.j2 (k + 1) y0 y1 y2))
  | 0 => ⟨fun _ _ _ _ r h => by simp [relictref02_shift.j0] at h, fun _ _ _ _ r h => by simp [relictref02_shift.l0] at h, fun _ _ _ r h => by simp [relictref02_shift.j2] at h⟩
  | k + 1 => by
    obtain ⟨ih0, ih1, ih2⟩ := relictref02_shift.mono_l k
    refine ⟨?_, ?_, ?_⟩
    · intro y0 y1 y2 y3
      unfold relictref02_shift.j0
      repeat' first
      | (with_reducible exact ih0 _ _ _ _)
      | (with_reducible exact ih1 _ _ _ _)
      | (with_reducible exact ih2 _ _ _)
      | (with_reducible exact relictref01_Shl.mono _ _ _)
      | (with_reducible exact relictref02_made.mono _ _ _)
      | (with_reducible exact LeO.refl _)
      | (with_reducible exact LeO.none _)
      | (with_reducible refine LeO.ite ?_ ?_)
      | (with_reducible refine LeO.bind ?_ (fun _ => ?_))
      | exact ih0 _ _ _ _
      | exact ih1 _ _ _ _
      | exact ih2 _ _ _
      | exact relictref01_Shl.mono _ _ _
      | exact relictref02_made.mono _ _ _
      | exact LeO.none _
      | refine LeO.ite ?_ ?_
      | refine LeO.bind ?_ (fun _ => ?_)
    · intro y0 y1 y2 y3
      unfold relictref02_shift.l0
      repeat' first
      | (with_reducible exact ih0 _ _ _ _)
      | (with_reducible exact ih1 _ _ _ _)
      | (with_reducible exact ih2 _ _ _)
      | (with_reducible exact relictref01_Shl.mono _ _ _)
      | (with_reducible exact relictref02_made.mono _ _ _)
      | (with_reducible exact LeO.refl _)
      | (with_reducible exact LeO.none _)
      | (with_reducible refine LeO.ite ?_ ?_)
      | (with_reducible refine LeO.bind ?_ (fun _ => ?_))
      | exact ih0 _ _ _ _
      | exact ih1 _ _ _ _
      | exact ih2 _ _ _
      | exact relictref01_Shl.mono _ _ _
      | exact relictref02_made.mono _ _ _
      | exact LeO.none _
      | refine LeO.ite ?_ ?_
      | refine LeO.bind ?_ (fun _ => ?_)
    · intro y0 y1 y2
      unfold relictref02_shift.j2
      repeat' first
      | (with_reducible exact ih0 _ _ _ _)
      | (with_reducible exact ih1 _ _ _ _)
      | (with_reducible exact ih2 _ _ _)
      | (with_reducible exact relictref01_Shl.mono _ _ _)
      | (with_reducible exact relictref02_made.mono _ _ _)
      | (with_reducible exact LeO.refl _)
      | (with_reducible exact LeO.none _)
      | (with_reducible refine LeO.ite ?_ ?_)
      | (with_reducible refine LeO.bind ?_ (fun _ => ?_))
      | exact ih0 _ _ _ _
      | exact ih1 _ _ _ _
      | exact ih2 _ _ _
      | exact relictref01_Shl.mono _ _ _
      | exact relictref02_made.mono _ _ _
      | exact LeO.none _
      | refine LeO.ite ?_ ?_
      | refine LeO.bind ?_ (fun _ => ?_)
theorem relictref02_shift.mono : ∀ a0 a1 a2 a3 k, LeO (relictref02_shift.f k a0 a1 a2 a3) (relictref02_shift.f (k + 1) a0 a1 a2 a3) := by
  intro a0 a1 a2 a3 k
  obtain ⟨ih0, ih1, ih2⟩ := relictref02_shift.mono_l k
  unfold relictref02_shift.f
  repeat' first
      | (with_reducible exact ih0 _ _ _ _)
      | (with_reducible exact ih1 _ _ _ _)
      | (with_reducible exact ih2 _ _ _)
      | (with_reducible exact relictref01_Shl.mono _ _ _)
      | (with_reducible exact relictref02_made.mono _ _ _)
      | (with_reducible exact LeO.refl _)
      | (with_reducible exact LeO.none _)
      | (with_reducible refine LeO.ite ?_ ?_)
      | (with_reducible refine LeO.bind ?_ (fun _ => ?_))
      | exact ih0 _ _ _ _
      | exact ih1 _ _ _ _
      | exact ih2 _ _ _
      | exact relictref01_Shl.mono _ _ _
      | exact relictref02_made.mono _ _ _
      | exact LeO.none _
      | refine LeO.ite ?_ ?_
      | refine LeO.bind ?_ (fun _ => ?_)
set_option maxHeartbeats 8000000 in
set_option maxRecDepth 100000 in
theorem relictref02_shift.calls (k : Nat) (a0_0 : Bool) (P0_1_ : Nat → Prop) (u9000_ : Value) (l0_1 : List Int) (a1 : Int) (a2 : Bool) (r1 : Bool) (r2 : List Int) (r3 : Bool) (w0 w : World) (hB : Below w0.heap.size w0 w) (ho0_1 : Kd.R (Kd.int .u32) 102 w w0.heap.size P0_1_ u9000_ l0_1) (h : relictref02_shift.f k a0_0 l0_1 a1 a2 = some (r1, r2, r3)) :
    Calls Try.prog 93 #[.agg #[.bool a0_0, u9000_], .int .i64 a1, .bool a2] w fun e w' => ∃ v1_ : Value, e = .returned (.tuple #[.agg #[.bool r1, v1_], .bool r3]) ∧ Kd.R (Kd.int .u32) 102 w' w0.heap.size (fun k_ => (P0_1_ k_ ∨ w.heap.size ≤ k_)) v1_ r2 ∧ Below w0.heap.size w0 w' ∧ Kept w w' (fun k_ => P0_1_ k_) := by
  have hu41 := Try.underlying41
  have HO0_1 := Aside0.mk (show Kd.R (Kd.int .u32) 102 w w0.heap.size (fun k_ => (P0_1_ k_ ∨ w.heap.size ≤ k_)) u9000_ l0_1 from Kd.R_mono ho0_1 (fun k_ hk => (.inl hk)))
  have HK := Aside0.mk (Kept.refl w (fun k_ => P0_1_ k_))
  have HW0 := Aside0.mk hB.size
  have HB := Aside0.mk hB
  clear hB
  have H : (if a2 = true then (if a1 > 10000 then (relictref02_shift.j0 k a1 (decide ((l0_1.length : Int) > 0)) a0_0 l0_1) else (relictref02_shift.j0 k a1 false a0_0 l0_1)) else (if a1 > 10000 then (relictref02_shift.j2 k 10000 a0_0 l0_1) else (relictref02_shift.j2 k a1 a0_0 l0_1))) = some (r1, r2, r3) := h
  clear h
  by_cases c4 : a2 = true
  · subst c4
    have H1 : (if a1 > 10000 then (relictref02_shift.j0 k a1 (decide ((l0_1.length : Int) > 0)) a0_0 l0_1) else (relictref02_shift.j0 k a1 false a0_0 l0_1)) = some (r1, r2, r3) := by rw [if_pos rfl] at H; exact H
    clear H
    have H := H1
    clear H1
    have HC5 := Aside0.mk H
    clear H
    obtain ⟨Ao6, co6, eo6⟩ := Kd.R_slice HO0_1.out
    subst eo6
    go_enter Try.func93, Try.ntmps93
    go_upto_region 2 with (first | ((with_reducible refine gate_dst (N := 3) rfl ?_); (try (refine gate_guard (by rfl) ?_; dsimp only)); refine box_event ?hg (N := 3) ?hd (cs := #[.bool a0_0, .slice Ao6 l0_1.length co6]) (t := 41) ?hr ?_; (case hd => rfl); (case hg => rfl); (case hr => first | (go_simp; done) | (go_simp; rfl)); intro gb453 hg w7 hbox hb; have n0_ := Aside0.mk (Kd.R_below (by (with_reducible repeat (first | apply Kd.R_alloc | apply Kd.R_drewN | apply Kd.R_drew)); exact HO0_1.out) hb); have n1_ := Aside0.mk (Kept.below (S := (fun k_ => P0_1_ k_)) (by repeat (first | (with_reducible first | exact HK.out | apply Kept.alloc | apply Kept.drewN | apply Kept.drew) | exact HK.out)) hb); have n2_ := Aside0.mk (below_step (by repeat (first | (with_reducible first | exact HB.out | apply below_alloc | apply pw_below_drewN | apply below_drew1) | exact HB.out)) hb); have n3_ := Aside0.mk (hbox); have n4_ := Aside0.mk ((by rw [hg]; exact (by first | exact HK.out.1 | exact (show Kept w _ (fun k_ => P0_1_ k_) from by repeat (first | (with_reducible first | exact HK.out | apply Kept.alloc | apply Kept.drewN | apply Kept.drew) | exact HK.out)).1) : w.heap.size ≤ gb453)); have n5_ := Aside0.mk ((by rw [hg]; exact (below_size (by repeat (first | (with_reducible first | exact HB.out | apply below_alloc | apply pw_below_drewN | apply below_drew1) | exact HB.out))) : w0.heap.size ≤ gb453)); clear HO0_1; clear HK; clear HB; have HO0_1 := n0_; have HK := n1_; have HB := n2_; have BK453 := n3_; have GW453 := n4_; have GE453 := n5_; clear n0_ n1_ n2_ n3_ n4_ n5_; clear hb hbox hg) | ((with_reducible refine gate_dst (N := 6) rfl ?_); (try (refine gate_guard (by rfl) ?_; dsimp only)); refine box_event ?hg (N := 6) ?hd (cs := #[.bool false, .slice none 0 0]) (t := 41) ?hr ?_; (case hd => rfl); (case hg => rfl); (case hr => first | (go_simp; done) | (go_simp; rfl)); intro gb454 hg w8 hbox hb; have n0_ := Aside0.mk (Kd.R_below (by (with_reducible repeat (first | apply Kd.R_alloc | apply Kd.R_drewN | apply Kd.R_drew)); exact HO0_1.out) hb); have n1_ := Aside0.mk (blk_below (g := gb453) (o := .cells #[.bool a0_0, .slice Ao6 l0_1.length co6] 41 (0, 0)) (by (with_reducible repeat (first | refine blk_drewN ?_ _ | refine blk_drew ?_ | refine blk_alloc ?_ _)); exact BK453.out) hb); have n2_ := Aside0.mk (Kept.below (S := (fun k_ => P0_1_ k_)) (by repeat (first | (with_reducible first | exact HK.out | apply Kept.alloc | apply Kept.drewN | apply Kept.drew | refine Kept.setCell ?_ (.inr GW453.out) _) | exact HK.out)) hb); have n3_ := Aside0.mk (below_step (by repeat (first | (with_reducible first | exact HB.out | apply below_alloc | apply pw_below_drewN | apply below_drew1 | refine below_set ?_ GE453.out) | exact HB.out)) hb); have n4_ := Aside0.mk (hbox); have n5_ := Aside0.mk ((by rw [hg]; exact (by first | exact HK.out.1 | exact (show Kept w _ (fun k_ => P0_1_ k_) from by repeat (first | (with_reducible first | exact HK.out | apply Kept.alloc | apply Kept.drewN | apply Kept.drew | refine Kept.setCell ?_ (.inr GW453.out) _) | exact HK.out)).1) : w.heap.size ≤ gb454)); have n6_ := Aside0.mk ((by rw [hg]; exact (below_size (by repeat (first | (with_reducible first | exact HB.out | apply below_alloc | apply pw_below_drewN | apply below_drew1 | refine below_set ?_ GE453.out) | exact HB.out))) : w0.heap.size ≤ gb454)); have n7_ := Aside0.mk ((by rw [hg]; exact Nat.ne_of_lt (blk_lt (g := gb453) (o := .cells #[.bool a0_0, .slice Ao6 l0_1.length co6] 41 (0, 0)) (by (with_reducible repeat (first | refine blk_drewN ?_ _ | refine blk_drew ?_ | refine blk_alloc ?_ _)); exact BK453.out)) : gb453 ≠ gb454)); have n8_ := Aside0.mk ((by rw [hg]; exact Nat.ne_of_gt (blk_lt (g := gb453) (o := .cells #[.bool a0_0, .slice Ao6 l0_1.length co6] 41 (0, 0)) (by (with_reducible repeat (first | refine blk_drewN ?_ _ | refine blk_drew ?_ | refine blk_alloc ?_ _)); exact BK453.out)) : gb454 ≠ gb453)); clear HO0_1; clear BK453; clear HK; clear HB; have HO0_1 := n0_; have BK453 := n1_; have HK := n2_; have HB := n3_; have BK454 := n4_; have GW454 := n5_; have GE454 := n6_; have NB453_454 := n7_; have NB454_453 := n8_; clear n0_ n1_ n2_ n3_ n4_ n5_ n6_ n7_ n8_; clear hb hbox hg))
    (try simp only [Act.put, List.setIfInBounds_toArray, List.set_cons_zero, List.set_cons_succ])
    go_cut [18] (fun v18 wc => ∃ (kq : Nat) (x18_4 : Bool), v18 = .bool x18_4 ∧ Aside0 (relictref02_shift.j0 kq a1 x18_4 a0_0 l0_1 = some (r1, r2, r3)) ∧ Aside0 (kq ≤ k) ∧ Aside0 (Kd.R (Kd.int .u32) 102 wc w0.heap.size (fun k_ => (P0_1_ k_ ∨ w.heap.size ≤ k_)) (.slice Ao6 l0_1.length co6) l0_1) ∧ Aside0 (wc.heap[gb453]? = some (.cells #[.bool a0_0, (.slice Ao6 l0_1.length co6)] 41 (0, 0))) ∧ Aside0 (wc.heap[gb454]? = some (.cells #[.bool false, (.slice none 0 0)] 41 (0, 0))) ∧ Aside0 (Kept w wc (fun k_ => P0_1_ k_)) ∧ Aside0 (Below w0.heap.size w0 wc))
    case first =>
      have H := HC5.out
      clear HC5
      by_cases c9 : a1 > 10000
      · rw [if_pos c9] at H
        have c9b0 : decide (10000 < a1) = true := decide_eq_true c9
        clear c9
        (first | rw [c9b0] | (simp only [i64_w, i32_w]; rw [c9b0]) | skip)
        have H' := Aside0.mk H
        clear H
        have hnb10 := NB453_454.out
        have hnc10 := NB454_453.out
        have hcz11_0 : w8.cell? ⟨gb453, 0, none⟩ = some (.bool a0_0) := (blk_cell BK453.out 0).trans rfl
        have hcz11_1 : w8.cell? ⟨gb453, 1, none⟩ = some (.slice Ao6 l0_1.length co6) := (blk_cell BK453.out 1).trans rfl
        have hfz11_0 := blk_frozen BK453.out 0
        have hfz11_1 := blk_frozen BK453.out 1
        go_wp2
        go_meet
        case rel => exact ⟨_, (decide ((l0_1.length : Int) > 0)), (by first | rfl | (simp; done) | (simp [*]; done)), H', ⟨by first | omega | exact Nat.le_refl _⟩, ⟨by (with_reducible repeat (first | apply Kd.R_alloc | apply Kd.R_drewN | apply Kd.R_drew)); exact HO0_1.out⟩, ⟨by (with_reducible repeat (first | refine blk_drewN ?_ _ | refine blk_drew ?_ | refine blk_alloc ?_ _)); exact BK453.out⟩, ⟨by (with_reducible repeat (first | refine blk_drewN ?_ _ | refine blk_drew ?_ | refine blk_alloc ?_ _)); exact BK454.out⟩, ⟨by repeat (first | (with_reducible first | exact HK.out | apply Kept.alloc | apply Kept.drewN | apply Kept.drew | refine Kept.setCell ?_ (.inr GW453.out) _ | refine Kept.setCell ?_ (.inr GW454.out) _) | exact HK.out)⟩, ⟨by repeat (first | (with_reducible first | exact HB.out | apply below_alloc | apply pw_below_drewN | apply below_drew1 | refine below_set ?_ GE453.out | refine below_set ?_ GE454.out) | exact HB.out)⟩⟩
      · rw [if_neg c9] at H
        have c9b0 : decide (10000 < a1) = false := decide_eq_false c9
        clear c9
        (first | rw [c9b0] | (simp only [i64_w, i32_w]; rw [c9b0]) | skip)
        have H' := Aside0.mk H
        clear H
        go_wp2
        go_meet
        case rel => exact ⟨_, (false), (by first | rfl | (simp; done) | (simp [*]; done)), H', ⟨by first | omega | exact Nat.le_refl _⟩, ⟨by (with_reducible repeat (first | apply Kd.R_alloc | apply Kd.R_drewN | apply Kd.R_drew)); exact HO0_1.out⟩, ⟨by (with_reducible repeat (first | refine blk_drewN ?_ _ | refine blk_drew ?_ | refine blk_alloc ?_ _)); exact BK453.out⟩, ⟨by (with_reducible repeat (first | refine blk_drewN ?_ _ | refine blk_drew ?_ | refine blk_alloc ?_ _)); exact BK454.out⟩, ⟨by repeat (first | (with_reducible first | exact HK.out | apply Kept.alloc | apply Kept.drewN | apply Kept.drew | refine Kept.setCell ?_ (.inr GW453.out) _ | refine Kept.setCell ?_ (.inr GW454.out) _) | exact HK.out)⟩, ⟨by repeat (first | (with_reducible first | exact HB.out | apply below_alloc | apply pw_below_drewN | apply below_drew1 | refine below_set ?_ GE453.out | refine below_set ?_ GE454.out) | exact HB.out)⟩⟩
    case rest =>
      clear HC5
      try clear c1
      try clear p2
      try clear c4
      try clear c9
      try clear c9b0
      try clear c10
      try clear hcz11_0
      try clear hcz11_1
      try clear hfz11_0
      try clear hfz11_1
      obtain ⟨kq, x18_4, rfl, HA, HJ4, HO_454001, BK453, BK454, HK, HB⟩ := hcut
      cases kq with
      | zero => exact absurd HA.out (by simp [relictref02_shift.j0])
      | succ kj4 =>
        have H := HA.out
        clear HA
        simp only [relictref02_shift.j0] at H
        by_cases c12 : x18_4 = true
        · subst c12
          have H1 : (some (false, ([] : List Int), false)) = some (r1, r2, r3) := by rw [if_pos rfl] at H; exact H
          clear H
          have H := H1
          clear H1
          simp only [Option.some.injEq, Prod.mk.injEq] at H
          obtain ⟨rfl, rfl, rfl⟩ := H
          have hnb13 := NB454_453.out
          have hnc13 := NB453_454.out
          have hcz14_0 : wc.cell? ⟨gb454, 0, none⟩ = some (.bool false) := (blk_cell BK454.out 0).trans rfl
          have hcz14_1 : wc.cell? ⟨gb454, 1, none⟩ = some (.slice none 0 0) := (blk_cell BK454.out 1).trans rfl
          have hfz14_0 := blk_frozen BK454.out 0
          have hfz14_1 := blk_frozen BK454.out 1
          go_wp2
          refine bodyPost_ret (results_ct rfl _ _ gb454 41 #[.bool false, .slice none 0 0] (0, 0) _ rfl (by (with_reducible repeat (first | refine blk_drewN ?_ _ | refine blk_drew ?_ | refine blk_alloc ?_ _)); refine blk_put (cs := #[.bool false, .slice none 0 0]) ?_ 1 _ rfl; (with_reducible repeat (first | refine blk_drewN ?_ _ | refine blk_drew ?_ | refine blk_alloc ?_ _)); refine blk_put (cs := #[.bool false, .slice none 0 0]) ?_ 0 _ rfl; (with_reducible repeat (first | refine blk_drewN ?_ _ | refine blk_drew ?_ | refine blk_alloc ?_ _)); exact BK454.out) Try.underlying41 rfl (by kernel_rfl)) rfl ?_
          exact ⟨_, by first | rfl | (simp [errW_none, errW_some] <;> rfl) | (simp [*, errW_none, errW_some] <;> rfl), by first | exact Kd.R_nil _ _ _ _ _ | exact Kd.N_nil _ _ _ _ _ | exact Kd.V_nil _ _ _ _ _ | exact Kd.Q_nil _ _ _ _ _ | exact Kd.S_nil _ _ _ _ _, by repeat (first | (with_reducible first | exact HB.out | apply below_alloc | apply pw_below_drewN | apply below_drew1 | refine below_set ?_ GE453.out | refine below_set ?_ GE454.out) | exact HB.out), by repeat (first | (with_reducible first | exact HK.out | apply Kept.alloc | apply Kept.drewN | apply Kept.drew | refine Kept.setCell ?_ (.inr GW453.out) _ | refine Kept.setCell ?_ (.inr GW454.out) _) | exact HK.out)⟩
        · replace c12 := Bool.eq_false_iff.mpr c12
          subst c12
          have H1 : (relictref02_shift.l0 kj4 l0_1 (mn a1 10000) a0_0 l0_1) = some (r1, r2, r3) := by rw [if_neg (show ¬ (false = true) by decide)] at H; exact H
          clear H
          have H := H1
          clear H1
          obtain ⟨ji15, hji15⟩ : ∃ j_ : Int, (mn a1 10000) = j_ := ⟨_, rfl⟩
          replace H : (relictref02_shift.l0 kj4 l0_1 ji15 a0_0 l0_1) = some (r1, r2, r3) := by first | (rw [hji15] at H; exact H) | (simp only [hji15] at H ⊢; exact H)
          have hji15_ : (if 10000 < a1 then 10000 else a1) = ji15 := hji15
          have H' := Aside0.mk H
          clear H
          have hnb16 := NB453_454.out
          have hnc16 := NB454_453.out
          have hcz17_0 : wc.cell? ⟨gb453, 0, none⟩ = some (.bool a0_0) := (blk_cell BK453.out 0).trans rfl
          have hcz17_1 : wc.cell? ⟨gb453, 1, none⟩ = some (.slice Ao6 l0_1.length co6) := (blk_cell BK453.out 1).trans rfl
          have hfz17_0 := blk_frozen BK453.out 0
          have hfz17_1 := blk_frozen BK453.out 1
          go_wp2
          go_loopg [8, 9] kj4 (fun kq v8 v9 w' => ∃ (x8_2 : List Int) (x9_2 : Int) (x455000_2 : Bool), v9 = .int .i64 x9_2 ∧ Aside0 (relictref02_shift.l0 kq x8_2 x9_2 a0_0 l0_1 = some (r1, r2, r3)) ∧ Aside0 (kq ≤ kj4) ∧ Aside0 (Kd.R (Kd.int .u32) 102 w' w0.heap.size (fun k_ => (P0_1_ k_ ∨ w.heap.size ≤ k_)) v8 x8_2) ∧ Aside0 (Kd.R (Kd.int .u32) 102 w' w0.heap.size (fun k_ => (P0_1_ k_ ∨ w.heap.size ≤ k_)) (.slice Ao6 l0_1.length co6) l0_1) ∧ Aside0 (w'.heap[gb453]? = some (.cells #[.bool a0_0, (.slice Ao6 l0_1.length co6)] 41 (0, 0))) ∧ Aside0 (w'.heap[gb454]? = some (.cells #[.bool x455000_2, (.slice none 0 0)] 41 (0, 0))) ∧ Aside0 (Kept w w' (fun k_ => P0_1_ k_)) ∧ Aside0 (Below w0.heap.size w0 w'))
          case atStart => exact ⟨(l0_1), (ji15), (false), (by first | rfl | (simp; done) | (simp only [← hji15] <;> (first | rfl | simp)) | (simp [*]; done)), H', ⟨Nat.le_refl _⟩, ⟨by (with_reducible repeat (first | apply Kd.R_alloc | apply Kd.R_drewN | apply Kd.R_drew)); exact HO_454001.out⟩, ⟨by (with_reducible repeat (first | apply Kd.R_alloc | apply Kd.R_drewN | apply Kd.R_drew)); exact HO_454001.out⟩, ⟨by (with_reducible repeat (first | refine blk_drewN ?_ _ | refine blk_drew ?_ | refine blk_alloc ?_ _)); exact BK453.out⟩, ⟨by (with_reducible repeat (first | refine blk_drewN ?_ _ | refine blk_drew ?_ | refine blk_alloc ?_ _)); exact BK454.out⟩, ⟨by repeat (first | (with_reducible first | exact HK.out | apply Kept.alloc | apply Kept.drewN | apply Kept.drew | refine Kept.setCell ?_ (.inr GW453.out) _ | refine Kept.setCell ?_ (.inr GW454.out) _) | exact HK.out)⟩, ⟨by repeat (first | (with_reducible first | exact HB.out | apply below_alloc | apply pw_below_drewN | apply below_drew1 | refine below_set ?_ GE453.out | refine below_set ?_ GE454.out) | exact HB.out)⟩⟩
          case round =>
            clear H'
            try clear c1
            try clear p2
            try clear c4
            try clear c9
            try clear c9b0
            try clear c10
            try clear c12
            try clear c13
            try clear c16
            try clear hcz11_0
            try clear hcz11_1
            try clear hcz14_0
            try clear hcz14_1
            try clear hcz17_0
            try clear hcz17_1
            try clear hfz11_0
            try clear hfz11_1
            try clear hfz14_0
            try clear hfz14_1
            try clear hfz17_0
            try clear hfz17_1
            try clear p2
            obtain ⟨x8_2, x9_2, x455000_2, rfl, HA, HK2, HO_8, HO_454001, BK453, BK454, HK, HB⟩ := hrel
            cases gk with
            | zero => exact absurd HA.out (by simp [relictref02_shift.l0])
            | succ k2 =>
              have H := HA.out
              clear HA
              simp only [relictref02_shift.l0] at H
              by_cases c18 : x9_2 > 0
              · rw [if_pos c18] at H
                have c18b0 : decide (0 < x9_2) = true := decide_eq_true c18
                clear c18
                obtain ⟨ji19, hji19⟩ : ∃ j_ : Int, (mn x9_2 32) = j_ := ⟨_, rfl⟩
                replace H : ((relictref01_Shl.f k2 x8_2 (ji19)).bind fun t455 => (if (t455.length : Int) > 12 then (some (false, ([] : List Int), false)) else (relictref02_shift.l0 k2 t455 (wrap64 (x9_2 - 32)) a0_0 l0_1))) = some (r1, r2, r3) := by first | (rw [hji19] at H; exact H) | (simp only [hji19] at H ⊢; exact H)
                have hji19_ : (if 32 < x9_2 then 32 else x9_2) = ji19 := hji19
                replace H := Option.bind_eq_some_iff.mp H
                obtain ⟨t455, A200, H⟩ := H
                replace H : (if (t455.length : Int) > 12 then (some (false, ([] : List Int), false)) else (relictref02_shift.l0 k2 t455 (wrap64 (x9_2 - 32)) a0_0 l0_1)) = some (r1, r2, r3) := H
                have A20 := Aside0.mk A200
                clear A200
                by_cases c21 : (t455.length : Int) > 12
                · rw [if_pos c21] at H
                  have c21b0 : decide (12 < (t455.length : Int)) = true := decide_eq_true c21
                  have c21b1 : decide (12 < t455.length) = true := decide_eq_true (by omega)
                  clear c21
                  simp only [Option.some.injEq, Prod.mk.injEq] at H
                  obtain ⟨rfl, rfl, rfl⟩ := H
                  obtain ⟨Ao22, co22, eo22⟩ := Kd.R_slice HO_8.out
                  subst eo22
                  go_wp2_with (first | ((with_reducible refine gate_callee (f := 134) rfl ?_); refine goesL_ (some 31) rfl rfl Try.func134 (by kernel_rfl) rfl #[.slice Ao22 x8_2.length co22, .int .i64 ji19] rfl (by (try simp only [List.map_toArray, List.map_cons, List.map_nil]); first | done | (simp only [hji19]; rfl) | rfl | (simp only [List.length_drop, List.length_take]; rfl)) ?_; (with_reducible refine (relictref01_Shl.calls k2 _ _ x8_2 ji19 t455 _ ?side1 ?side2 A20.out).mono ?_); (case side1 => repeat (first | exact (Kd.R_reads' HO_8.out).2.2 | (with_reducible refine Kd.C_alloc ?_ _) | (with_reducible refine Kd.C_drewN ?_ _) | (with_reducible refine Kd.C_drew ?_))); (case side2 => exact (Kd.R_reads' HO_8.out).2.1); rintro e w23 ⟨v456, rfl, ho0, hb⟩; refine ⟨_, rfl, ?_⟩; have n0_ := Aside0.mk (Kd.R_elder' (by (with_reducible repeat (first | apply Kd.R_alloc | apply Kd.R_drewN | apply Kd.R_drew)); exact HO_8.out) (Kd.R_base ho0) hb); have n1_ := Aside0.mk (Kd.R_elder' (by (with_reducible repeat (first | apply Kd.R_alloc | apply Kd.R_drewN | apply Kd.R_drew)); exact HO_454001.out) (Kd.R_base ho0) hb); have n2_ := Aside0.mk (Kd.R_lower (Kd.R_new' (Kd.R_new' (Kd.R_newM (M := fun k_ => (P0_1_ k_ ∨ w.heap.size ≤ k_)) ho0 (by first | exact HK.out.1 | exact (show Kept w _ (fun k_ => P0_1_ k_) from by repeat (first | (with_reducible first | exact HK.out | apply Kept.alloc | apply Kept.drewN | apply Kept.drew | refine Kept.setCell ?_ (.inr GW453.out) _ | refine Kept.setCell ?_ (.inr GW454.out) _) | exact HK.out)).1) (fun k_ h_ => .inr h_)) (Kd.R_lt (by (with_reducible repeat (first | apply Kd.R_alloc | apply Kd.R_drewN | apply Kd.R_drew)); exact HO_8.out))) (Kd.R_lt (by (with_reducible repeat (first | apply Kd.R_alloc | apply Kd.R_drewN | apply Kd.R_drew)); exact HO_454001.out))) (below_size (by repeat (first | (with_reducible first | exact HB.out | apply below_alloc | apply pw_below_drewN | apply below_drew1 | refine below_set ?_ GE453.out | refine below_set ?_ GE454.out) | exact HB.out)))); have n3_ := Aside0.mk (blk_below (g := gb453) (o := .cells #[.bool a0_0, .slice Ao6 l0_1.length co6] 41 (0, 0)) (by (with_reducible repeat (first | refine blk_drewN ?_ _ | refine blk_drew ?_ | refine blk_alloc ?_ _)); exact BK453.out) hb); have n4_ := Aside0.mk (blk_below (g := gb454) (o := .cells #[.bool x455000_2, .slice none 0 0] 41 (0, 0)) (by (with_reducible repeat (first | refine blk_drewN ?_ _ | refine blk_drew ?_ | refine blk_alloc ?_ _)); exact BK454.out) hb); have n5_ := Aside0.mk (Kept.below (S := (fun k_ => P0_1_ k_)) (by repeat (first | (with_reducible first | exact HK.out | apply Kept.alloc | apply Kept.drewN | apply Kept.drew | refine Kept.setCell ?_ (.inr GW453.out) _ | refine Kept.setCell ?_ (.inr GW454.out) _) | exact HK.out)) hb); have n6_ := Aside0.mk (below_step (by repeat (first | (with_reducible first | exact HB.out | apply below_alloc | apply pw_below_drewN | apply below_drew1 | refine below_set ?_ GE453.out | refine below_set ?_ GE454.out) | exact HB.out)) hb); clear HO_8; clear HO_454001; clear BK453; clear BK454; clear HK; clear HB; have HO_8 := n0_; have HO_454001 := n1_; have HO457 := n2_; have BK453 := n3_; have BK454 := n4_; have HK := n5_; have HB := n6_; clear n0_ n1_ n2_ n3_ n4_ n5_ n6_; (try clear hb); (try clear hb2); (try clear hk); (try clear hi); (try clear ho0); obtain ⟨Ao24, co24, eo24⟩ := Kd.R_slice HO457.out; subst eo24; have hnb25 := NB454_453.out; have hnc25 := NB453_454.out; have hcz26_0 : w23.cell? ⟨gb454, 0, none⟩ = some (.bool x455000_2) := (blk_cell BK454.out 0).trans rfl; have hcz26_1 : w23.cell? ⟨gb454, 1, none⟩ = some (.slice none 0 0) := (blk_cell BK454.out 1).trans rfl; have hfz26_0 := blk_frozen BK454.out 0; have hfz26_1 := blk_frozen BK454.out 1))
                  refine bodyPost_ret (results_ct rfl _ _ gb454 41 #[.bool false, .slice none 0 0] (0, 0) _ rfl (by (with_reducible repeat (first | refine blk_drewN ?_ _ | refine blk_drew ?_ | refine blk_alloc ?_ _)); refine blk_put (cs := #[.bool false, .slice none 0 0]) ?_ 1 _ rfl; (with_reducible repeat (first | refine blk_drewN ?_ _ | refine blk_drew ?_ | refine blk_alloc ?_ _)); refine blk_put (cs := #[.bool x455000_2, .slice none 0 0]) ?_ 0 _ rfl; (with_reducible repeat (first | refine blk_drewN ?_ _ | refine blk_drew ?_ | refine blk_alloc ?_ _)); exact BK454.out) Try.underlying41 rfl (by kernel_rfl)) rfl ?_
                  exact ⟨_, by first | rfl | (simp [errW_none, errW_some] <;> rfl) | (simp only [← hji15, ← hji19]; first | rfl | (simp [errW_none, errW_some] <;> rfl)) | (simp [*, errW_none, errW_some] <;> rfl), by first | exact Kd.R_nil _ _ _ _ _ | exact Kd.N_nil _ _ _ _ _ | exact Kd.V_nil _ _ _ _ _ | exact Kd.Q_nil _ _ _ _ _ | exact Kd.S_nil _ _ _ _ _, by repeat (first | (with_reducible first | exact HB.out | apply below_alloc | apply pw_below_drewN | apply below_drew1 | refine below_set ?_ GE453.out | refine below_set ?_ GE454.out) | exact HB.out), by repeat (first | (with_reducible first | exact HK.out | apply Kept.alloc | apply Kept.drewN | apply Kept.drew | refine Kept.setCell ?_ (.inr GW453.out) _ | refine Kept.setCell ?_ (.inr GW454.out) _) | exact HK.out)⟩
                · rw [if_neg c21] at H
                  have c21b0 : decide (12 < (t455.length : Int)) = false := decide_eq_false c21
                  have c21b1 : decide (12 < t455.length) = false := decide_eq_false (by omega)
                  clear c21
                  have H' := Aside0.mk H
                  clear H
                  obtain ⟨Ao27, co27, eo27⟩ := Kd.R_slice HO_8.out
                  subst eo27
                  go_wp2_with (first | ((with_reducible refine gate_callee (f := 134) rfl ?_); refine goesL_ (some 31) rfl rfl Try.func134 (by kernel_rfl) rfl #[.slice Ao27 x8_2.length co27, .int .i64 ji19] rfl (by (try simp only [List.map_toArray, List.map_cons, List.map_nil]); first | done | (simp only [hji19]; rfl) | rfl | (simp only [List.length_drop, List.length_take]; rfl)) ?_; (with_reducible refine (relictref01_Shl.calls k2 _ _ x8_2 ji19 t455 _ ?side1 ?side2 A20.out).mono ?_); (case side1 => repeat (first | exact (Kd.R_reads' HO_8.out).2.2 | (with_reducible refine Kd.C_alloc ?_ _) | (with_reducible refine Kd.C_drewN ?_ _) | (with_reducible refine Kd.C_drew ?_))); (case side2 => exact (Kd.R_reads' HO_8.out).2.1); rintro e w28 ⟨v456, rfl, ho0, hb⟩; refine ⟨_, rfl, ?_⟩; have n0_ := Aside0.mk (Kd.R_elder' (by (with_reducible repeat (first | apply Kd.R_alloc | apply Kd.R_drewN | apply Kd.R_drew)); exact HO_8.out) (Kd.R_base ho0) hb); have n1_ := Aside0.mk (Kd.R_elder' (by (with_reducible repeat (first | apply Kd.R_alloc | apply Kd.R_drewN | apply Kd.R_drew)); exact HO_454001.out) (Kd.R_base ho0) hb); have n2_ := Aside0.mk (Kd.R_lower (Kd.R_new' (Kd.R_new' (Kd.R_newM (M := fun k_ => (P0_1_ k_ ∨ w.heap.size ≤ k_)) ho0 (by first | exact HK.out.1 | exact (show Kept w _ (fun k_ => P0_1_ k_) from by repeat (first | (with_reducible first | exact HK.out | apply Kept.alloc | apply Kept.drewN | apply Kept.drew | refine Kept.setCell ?_ (.inr GW453.out) _ | refine Kept.setCell ?_ (.inr GW454.out) _) | exact HK.out)).1) (fun k_ h_ => .inr h_)) (Kd.R_lt (by (with_reducible repeat (first | apply Kd.R_alloc | apply Kd.R_drewN | apply Kd.R_drew)); exact HO_8.out))) (Kd.R_lt (by (with_reducible repeat (first | apply Kd.R_alloc | apply Kd.R_drewN | apply Kd.R_drew)); exact HO_454001.out))) (below_size (by repeat (first | (with_reducible first | exact HB.out | apply below_alloc | apply pw_below_drewN | apply below_drew1 | refine below_set ?_ GE453.out | refine below_set ?_ GE454.out) | exact HB.out)))); have n3_ := Aside0.mk (blk_below (g := gb453) (o := .cells #[.bool a0_0, .slice Ao6 l0_1.length co6] 41 (0, 0)) (by (with_reducible repeat (first | refine blk_drewN ?_ _ | refine blk_drew ?_ | refine blk_alloc ?_ _)); exact BK453.out) hb); have n4_ := Aside0.mk (blk_below (g := gb454) (o := .cells #[.bool x455000_2, .slice none 0 0] 41 (0, 0)) (by (with_reducible repeat (first | refine blk_drewN ?_ _ | refine blk_drew ?_ | refine blk_alloc ?_ _)); exact BK454.out) hb); have n5_ := Aside0.mk (Kept.below (S := (fun k_ => P0_1_ k_)) (by repeat (first | (with_reducible first | exact HK.out | apply Kept.alloc | apply Kept.drewN | apply Kept.drew | refine Kept.setCell ?_ (.inr GW453.out) _ | refine Kept.setCell ?_ (.inr GW454.out) _) | exact HK.out)) hb); have n6_ := Aside0.mk (below_step (by repeat (first | (with_reducible first | exact HB.out | apply below_alloc | apply pw_below_drewN | apply below_drew1 | refine below_set ?_ GE453.out | refine below_set ?_ GE454.out) | exact HB.out)) hb); clear HO_8; clear HO_454001; clear BK453; clear BK454; clear HK; clear HB; have HO_8 := n0_; have HO_454001 := n1_; have HO457 := n2_; have BK453 := n3_; have BK454 := n4_; have HK := n5_; have HB := n6_; clear n0_ n1_ n2_ n3_ n4_ n5_ n6_; (try clear hb); (try clear hb2); (try clear hk); (try clear hi); (try clear ho0); obtain ⟨Ao29, co29, eo29⟩ := Kd.R_slice HO457.out; subst eo29))
                  go_roundg k2
                  case measure => have := HJ4.out; have := HK2.out; omega
                  case rel => exact ⟨(t455), (wrap64 (x9_2 - 32)), (x455000_2), (by first | rfl | (simp; done) | (simp [*]; done)), H', ⟨by have := HJ4.out; have := HK2.out; omega⟩, ⟨by (with_reducible repeat (first | apply Kd.R_alloc | apply Kd.R_drewN | apply Kd.R_drew)); exact Kd.R_mono HO457.out (fun _ hk => by first | exact hk | exact hk.1 | exact hk.1.1 | exact hk.1.1.1)⟩, ⟨by (with_reducible repeat (first | apply Kd.R_alloc | apply Kd.R_drewN | apply Kd.R_drew)); exact Kd.R_mono HO_454001.out (fun _ hk => hk.1)⟩, ⟨by (with_reducible repeat (first | refine blk_drewN ?_ _ | refine blk_drew ?_ | refine blk_alloc ?_ _)); exact BK453.out⟩, ⟨by (with_reducible repeat (first | refine blk_drewN ?_ _ | refine blk_drew ?_ | refine blk_alloc ?_ _)); exact BK454.out⟩, ⟨by repeat (first | (with_reducible first | exact HK.out | apply Kept.alloc | apply Kept.drewN | apply Kept.drew | refine Kept.setCell ?_ (.inr GW453.out) _ | refine Kept.setCell ?_ (.inr GW454.out) _) | exact HK.out)⟩, ⟨by repeat (first | (with_reducible first | exact HB.out | apply below_alloc | apply pw_below_drewN | apply below_drew1 | refine below_set ?_ GE453.out | refine below_set ?_ GE454.out) | exact HB.out)⟩⟩
              · rw [if_neg c18] at H
                have c18b0 : decide (0 < x9_2) = false := decide_eq_false c18
                clear c18
                replace H := Option.bind_eq_some_iff.mp H
                obtain ⟨⟨t458, t459, t462⟩, A300, H⟩ := H
                replace H : (some (t458, t459, t462)) = some (r1, r2, r3) := H
                have A30 := Aside0.mk A300
                clear A300
                simp only [Option.some.injEq, Prod.mk.injEq] at H
                obtain ⟨rfl, rfl, rfl⟩ := H
                have hnb31 := NB453_454.out
                have hnc31 := NB454_453.out
                have hcz32_0 : wr.cell? ⟨gb453, 0, none⟩ = some (.bool a0_0) := (blk_cell BK453.out 0).trans rfl
                have hcz32_1 : wr.cell? ⟨gb453, 1, none⟩ = some (.slice Ao6 l0_1.length co6) := (blk_cell BK453.out 1).trans rfl
                have hfz32_0 := blk_frozen BK453.out 0
                have hfz32_1 := blk_frozen BK453.out 1
                obtain ⟨Ao33, co33, eo33⟩ := Kd.R_slice HO_8.out
                subst eo33
                go_wp2_with (first | ((with_reducible refine gate_callee (f := 88) rfl ?_); refine goesL_ (some 39) rfl rfl Try.func88 (by kernel_rfl) rfl #[.bool a0_0, .slice Ao33 x8_2.length co33] rfl (by (try simp only [List.map_toArray, List.map_cons, List.map_nil]); first | done | rfl | (simp only [List.length_drop, List.length_take]; rfl)) ?_; (with_reducible refine (relictref02_made.calls k2 a0_0 _ _ x8_2 t458 t459 t462 _ ?side1 ?side2 A30.out).mono ?_); (case side1 => repeat (first | exact (Kd.R_reads' HO_8.out).2.2 | (with_reducible refine Kd.C_alloc ?_ _) | (with_reducible refine Kd.C_drewN ?_ _) | (with_reducible refine Kd.C_drew ?_))); (case side2 => exact (Kd.R_reads' HO_8.out).2.1); rintro e w34 ⟨v460, rfl, ho0, hb⟩; refine ⟨_, rfl, ?_⟩; have n0_ := Aside0.mk (Kd.R_elder' (by (with_reducible repeat (first | apply Kd.R_alloc | apply Kd.R_drewN | apply Kd.R_drew)); exact HO_8.out) (Kd.R_base ho0) hb); have n1_ := Aside0.mk (Kd.R_elder' (by (with_reducible repeat (first | apply Kd.R_alloc | apply Kd.R_drewN | apply Kd.R_drew)); exact HO_454001.out) (Kd.R_base ho0) hb); have n2_ := Aside0.mk (Kd.R_lower (Kd.R_new' (Kd.R_new' (Kd.R_newM (M := fun k_ => (P0_1_ k_ ∨ w.heap.size ≤ k_)) ho0 (by first | exact HK.out.1 | exact (show Kept w _ (fun k_ => P0_1_ k_) from by repeat (first | (with_reducible first | exact HK.out | apply Kept.alloc | apply Kept.drewN | apply Kept.drew | refine Kept.setCell ?_ (.inr GW453.out) _ | refine Kept.setCell ?_ (.inr GW454.out) _) | exact HK.out)).1) (fun k_ h_ => .inr h_)) (Kd.R_lt (by (with_reducible repeat (first | apply Kd.R_alloc | apply Kd.R_drewN | apply Kd.R_drew)); exact HO_8.out))) (Kd.R_lt (by (with_reducible repeat (first | apply Kd.R_alloc | apply Kd.R_drewN | apply Kd.R_drew)); exact HO_454001.out))) (below_size (by repeat (first | (with_reducible first | exact HB.out | apply below_alloc | apply pw_below_drewN | apply below_drew1 | refine below_set ?_ GE453.out | refine below_set ?_ GE454.out) | exact HB.out)))); have n3_ := Aside0.mk (blk_below (g := gb453) (o := .cells #[.bool a0_0, .slice Ao6 l0_1.length co6] 41 (0, 0)) (by (with_reducible repeat (first | refine blk_drewN ?_ _ | refine blk_drew ?_ | refine blk_alloc ?_ _)); exact BK453.out) hb); have n4_ := Aside0.mk (blk_below (g := gb454) (o := .cells #[.bool x455000_2, .slice none 0 0] 41 (0, 0)) (by (with_reducible repeat (first | refine blk_drewN ?_ _ | refine blk_drew ?_ | refine blk_alloc ?_ _)); exact BK454.out) hb); have n5_ := Aside0.mk (Kept.below (S := (fun k_ => P0_1_ k_)) (by repeat (first | (with_reducible first | exact HK.out | apply Kept.alloc | apply Kept.drewN | apply Kept.drew | refine Kept.setCell ?_ (.inr GW453.out) _ | refine Kept.setCell ?_ (.inr GW454.out) _) | exact HK.out)) hb); have n6_ := Aside0.mk (below_step (by repeat (first | (with_reducible first | exact HB.out | apply below_alloc | apply pw_below_drewN | apply below_drew1 | refine below_set ?_ GE453.out | refine below_set ?_ GE454.out) | exact HB.out)) hb); clear HO_8; clear HO_454001; clear BK453; clear BK454; clear HK; clear HB; have HO_8 := n0_; have HO_454001 := n1_; have HO461 := n2_; have BK453 := n3_; have BK454 := n4_; have HK := n5_; have HB := n6_; clear n0_ n1_ n2_ n3_ n4_ n5_ n6_; (try clear hb); (try clear hb2); (try clear hk); (try clear hi); (try clear ho0); have hcz35_0 : w34.cell? ⟨gb454, 0, none⟩ = some (.bool x455000_2) := (blk_cell BK454.out 0).trans rfl; have hcz35_1 : w34.cell? ⟨gb454, 1, none⟩ = some (.slice none 0 0) := (blk_cell BK454.out 1).trans rfl; have hfz35_0 := blk_frozen BK454.out 0; have hfz35_1 := blk_frozen BK454.out 1; obtain ⟨Ao36, co36, eo36⟩ := Kd.R_slice HO461.out; subst eo36))
                refine bodyPost_ret (results_ct rfl _ _ gb454 41 #[.bool t458, .slice Ao36 t459.length co36] (0, 0) _ rfl (by (with_reducible repeat (first | refine blk_drewN ?_ _ | refine blk_drew ?_ | refine blk_alloc ?_ _)); refine blk_put (cs := #[.bool t458, .slice none 0 0]) ?_ 1 _ rfl; (with_reducible repeat (first | refine blk_drewN ?_ _ | refine blk_drew ?_ | refine blk_alloc ?_ _)); refine blk_put (cs := #[.bool x455000_2, .slice none 0 0]) ?_ 0 _ rfl; (with_reducible repeat (first | refine blk_drewN ?_ _ | refine blk_drew ?_ | refine blk_alloc ?_ _)); exact BK454.out) Try.underlying41 rfl (by kernel_rfl)) rfl ?_
                exact ⟨_, by first | rfl | (simp [errW_none, errW_some] <;> rfl) | (simp only [← hji15]; first | rfl | (simp [errW_none, errW_some] <;> rfl)) | (simp [*, errW_none, errW_some] <;> rfl), by (with_reducible repeat (first | apply Kd.R_alloc | apply Kd.R_drewN | apply Kd.R_drew)); exact Kd.R_mono (Kd.R_far (p := ⟨gb454, 1, none⟩) (Kd.R_far (p := ⟨gb454, 0, none⟩) (Kd.R_types HO461.out BK454.out (by decide)) (fun _ hk => hk.2) (.bool t458)) (fun _ hk => hk.2) (.slice Ao36 t459.length co36)) (fun _ hk => hk.1.1.1.1), by repeat (first | (with_reducible first | exact HB.out | apply below_alloc | apply pw_below_drewN | apply below_drew1 | refine below_set ?_ GE453.out | refine below_set ?_ GE454.out) | exact HB.out), by repeat (first | (with_reducible first | exact HK.out | apply Kept.alloc | apply Kept.drewN | apply Kept.drew | refine Kept.setCell ?_ (.inr GW453.out) _ | refine Kept.setCell ?_ (.inr GW454.out) _) | exact HK.out)⟩
  · rw [if_neg c4] at H
    exact absurd H (by cases k <;> simp [relictref02_shift.j2])
end Go.Proofs.Ytlifdpfhepamfaa.PHe
