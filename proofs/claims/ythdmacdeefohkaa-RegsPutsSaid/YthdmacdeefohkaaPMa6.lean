-- Printed by the kit's print.py from a list of bodies that this session turned in four places; parts of it are this session's own.
import Derived.Test.YthdmacdeefohkaaPMa0
import Derived.Test.YthdmacdeefohkaaPMa1
namespace Go.Proofs.Ythdmacdeefohkaa.PMa
open Go.RowKit Go.Proofs.YthdmacdeefohkaaW.PrintWords Go.Proofs.YthdmacdeefohkaaW.PrintLast Go.Proofs.YthdmacdeefohkaaW.PrintMore
attribute [local go_sem] max2_int min2_int max_two min_two max_three min_three max_four min_four   -- for this text's walks alone
set_option linter.unusedVariables false
set_option linter.unusedSimpArgs false

/-! ### relictlaw00_light: function 94 -/
mutual
def relictlaw00_light.j0 : Nat → Int → Bool → Int → Bool → List Int → ByteArray → Int → List (S45) → Option (Int)
  | 0, _, _, _, _, _, _, _, _ => none
  | k + 1, x1, x18, x376000, x376001, x376002, x376003, x376004, x376005 => if x18 = true then (some (-1)) else (relictlaw00_light.l0 k x1 0 x376000 x376001 x376002 x376003 x376004 x376005)
def relictlaw00_light.l0 : Nat → Int → Int → Int → Bool → List Int → ByteArray → Int → List (S45) → Option (Int)
  | 0, _, _, _, _, _, _, _, _ => none
  | k + 1, x1, x5, x376000, x376001, x376002, x376003, x376004, x376005 => if x5 < (x376005.length : Int) then (if x1 ≥ 0 then (if 0 ≤ x5 then ((relictlaw00_light.f k ((rd_T45 x376005 x5).f0) ((rd_T45 x376005 x5).f1.f0) ((rd_T45 x376005 x5).f1.f1) ((rd_T45 x376005 x5).f2) ((rd_T45 x376005 x5).f3) ((rd_T45 x376005 x5).f4) x1).bind fun t377 => (relictlaw00_light.l0 k t377 (wrap64 (x5 + 1)) x376000 x376001 x376002 x376003 x376004 x376005)) else (none)) else (some x1)) else (some x1)
def relictlaw00_light.f : Nat → Int → Bool → List Int → ByteArray → Int → List (S45) → Int → Option (Int)
  | 0, _, _, _, _, _, _, _ => none
  | k + 1, a0_0, a0_1, l0_2, a0_3, a0_4, l0_5, a1 => if (l0_2.length : Int) > 40 then (relictlaw00_light.j0 k (wrap64 (a1 - 1)) true a0_0 a0_1 l0_2 a0_3 a0_4 l0_5) else (relictlaw00_light.j0 k (wrap64 (a1 - 1)) (decide ((a0_3.size : Int) > 500)) a0_0 a0_1 l0_2 a0_3 a0_4 l0_5)
end
theorem relictlaw00_light.mono_l : ∀ k, (∀ y0 y1 y2 y3 y4 y5 y6, LeO (relictlaw00_light.f k y0 y1 y2 y3 y4 y5 y6) (relictlaw00_light.f (k + 1) y0 y1 y2 y3 y4 y5 y6)) ∧ (∀ y0 y1 y2 y3 y4 y5 y6 y7, LeO (relictlaw00_light.j0 k y0 y1 y2 y3 y4 y5 y6 y7) (relictlaw00_light.j0 (k + 1) y0 y1 y2 y3 y4 y5 y6 y7)) ∧ (∀ y0 y1 y2 y3 y4 y5 y6 y7, LeO (relictlaw00_light.l0 k y0 y1 y2 y3 y4 y5 y6 y7) (relictlaw00_light.l0 (k + 1) y0 y1 y2 y3 y4 y5 y6 y7))
  | 0 => ⟨fun _ _ _ _ _ _ _ r h => by simp [relictlaw00_light.f] at h, fun _ _ _ _ _ _ _ _ r h => by simp [relictlaw00_light.j0] at h, fun _ _ _ _ _ _ _ _ r h => by simp [relictlaw00_light.l0] at h⟩
  | k + 1 => by
    obtain ⟨ih0, ih1, ih2⟩ := relictlaw00_light.mono_l k
    refine ⟨?_, ?_, ?_⟩
    · intro y0 y1 y2 y3 y4 y5 y6
      unfold relictlaw00_light.f
      repeat' first
      | (with_reducible exact ih0 _ _ _ _ _ _ _)
      | (with_reducible exact ih1 _ _ _ _ _ _ _ _)
      | (with_reducible exact ih2 _ _ _ _ _ _ _ _)
      | (with_reducible exact LeO.refl _)
      | (with_reducible exact LeO.none _)
      | (with_reducible refine LeO.ite ?_ ?_)
      | (with_reducible refine LeO.bind ?_ (fun _ => ?_))
      | exact ih0 _ _ _ _ _ _ _
      | exact ih1 _ _ _ _ _ _ _ _
      | exact ih2 _ _ _ _ _ _ _ _
      | exact LeO.none _
      | refine LeO.ite ?_ ?_
      | refine LeO.bind ?_ (fun _ => ?_)
    · intro y0 y1 y2 y3 y4 y5 y6 y7
      unfold relictlaw00_light.j0
      repeat' first
      | (with_reducible exact ih0 _ _ _ _ _ _ _)
      | (with_reducible exact ih1 _ _ _ _ _ _ _ _)
      | (with_reducible exact ih2 _ _ _ _ _ _ _ _)
      | (with_reducible exact LeO.refl _)
      | (with_reducible exact LeO.none _)
      | (with_reducible refine LeO.ite ?_ ?_)
      | (with_reducible refine LeO.bind ?_ (fun _ => ?_))
      | exact ih0 _ _ _ _ _ _ _
      | exact ih1 _ _ _ _ _ _ _ _
      | exact ih2 _ _ _ _ _ _ _ _
      | exact LeO.none _
      | refine LeO.ite ?_ ?_
      | refine LeO.bind ?_ (fun _ => ?_)
    · intro y0 y1 y2 y3 y4 y5 y6 y7
      unfold relictlaw00_light.l0
      repeat' first
      | (with_reducible exact ih0 _ _ _ _ _ _ _)
      | (with_reducible exact ih1 _ _ _ _ _ _ _ _)
      | (with_reducible exact ih2 _ _ _ _ _ _ _ _)
      | (with_reducible exact LeO.refl _)
      | (with_reducible exact LeO.none _)
      | (with_reducible refine LeO.ite ?_ ?_)
      | (with_reducible refine LeO.bind ?_ (fun _ => ?_))
      | exact ih0 _ _ _ _ _ _ _
      | exact ih1 _ _ _ _ _ _ _ _
      | exact ih2 _ _ _ _ _ _ _ _
      | exact LeO.none _
      | refine LeO.ite ?_ ?_
      | refine LeO.bind ?_ (fun _ => ?_)
theorem relictlaw00_light.mono : ∀ a0 a1 a2 a3 a4 a5 a6 k, LeO (relictlaw00_light.f k a0 a1 a2 a3 a4 a5 a6) (relictlaw00_light.f (k + 1) a0 a1 a2 a3 a4 a5 a6) := by
  intro a0 a1 a2 a3 a4 a5 a6 k
  obtain ⟨ih0, ih1, ih2⟩ := relictlaw00_light.mono_l k
  exact ih0 a0 a1 a2 a3 a4 a5 a6
set_option maxHeartbeats 8000000 in
set_option maxRecDepth 100000 in
theorem relictlaw00_light.calls (k : Nat) : ∀ (a0_0 : Int) (a0_1 : Bool) (A0_2 : Option Addr) (c0_2 : Nat) (l0_2 : List Int) (a0_3 : ByteArray) (a0_4 : Int) (A0_5 : Option Addr) (c0_5 : Nat) (l0_5 : List (S45)) (a1 : Int) (r : Int) (w : World) (hr0_2 : Kd.C (Kd.int .u32) w A0_2 l0_2.length l0_2) (hc0_2 : l0_2.length ≤ c0_2) (hr0_5 : Kd.C k45 w A0_5 l0_5.length l0_5) (hc0_5 : l0_5.length ≤ c0_5) (h : relictlaw00_light.f k a0_0 a0_1 l0_2 a0_3 a0_4 l0_5 a1 = some r),
    Calls Try.prog 94 #[.agg #[.int .i64 a0_0, .bool a0_1, .slice A0_2 l0_2.length c0_2, .string a0_3, .int .i64 a0_4, .slice A0_5 l0_5.length c0_5], .int .i64 a1] w fun e w' => e = .returned (.int .i64 r) ∧ Below w.heap.size w w' := by
  induction k using Nat.strongRecOn with
  | _ k ih =>
  intro a0_0 a0_1 A0_2 c0_2 l0_2 a0_3 a0_4 A0_5 c0_5 l0_5 a1 r w hr0_2 hc0_2 hr0_5 hc0_5 h
  cases k with
  | zero => exact absurd h (by simp [relictlaw00_light.f])
  | succ k =>
  simp only [relictlaw00_light.f] at h
  have hu45 := Try.underlying45
  have HR0_2 := Aside0.mk hr0_2
  have HC0_2 := Aside0.mk hc0_2
  clear hr0_2 hc0_2
  have HR0_5 := Aside0.mk hr0_5
  have HC0_5 := Aside0.mk hc0_5
  clear hr0_5 hc0_5
  have HB := Aside0.mk (Below.refl w.heap.size w)
  have H : (if (l0_2.length : Int) > 40 then (relictlaw00_light.j0 k (wrap64 (a1 - 1)) true a0_0 a0_1 l0_2 a0_3 a0_4 l0_5) else (relictlaw00_light.j0 k (wrap64 (a1 - 1)) (decide ((a0_3.size : Int) > 500)) a0_0 a0_1 l0_2 a0_3 a0_4 l0_5)) = some r := h
  clear h
  have HC3 := Aside0.mk H
  clear H
  go_enter Try.func94, Try.ntmps94
  go_upto_region 2 with (first | ((with_reducible refine gate_dst (N := 2) rfl ?_); (try (refine gate_guard (by rfl) ?_; dsimp only)); refine box_event ?hg (N := 2) ?hd (cs := #[.int .i64 a0_0, .bool a0_1, .slice A0_2 l0_2.length c0_2, .string a0_3, .int .i64 a0_4, .slice A0_5 l0_5.length c0_5]) (t := 45) ?hr ?_; (case hd => rfl); (case hg => rfl); (case hr => first | (go_simp; done) | (go_simp; rfl)); intro gb375 hg w4 hbox hb; have n0_ := Aside0.mk (below_step (by repeat (first | (with_reducible first | exact HB.out | apply below_alloc | apply pw_below_drewN | apply below_drew1) | exact HB.out)) hb); have n1_ := Aside0.mk (hbox); have n2_ := Aside0.mk ((by rw [hg]; exact (below_size (by repeat (first | (with_reducible first | exact HB.out | apply below_alloc | apply pw_below_drewN | apply below_drew1) | exact HB.out))) : w.heap.size ≤ gb375)); have n3_ := Aside0.mk ((by rw [hg]; exact (below_size (by repeat (first | (with_reducible first | exact HB.out | apply below_alloc | apply pw_below_drewN | apply below_drew1) | exact HB.out))) : w.heap.size ≤ gb375)); clear HB; have HB := n0_; have BK375 := n1_; have GW375 := n2_; have GE375 := n3_; clear n0_ n1_ n2_ n3_; clear hb hbox hg))
  (try simp only [Act.put, List.setIfInBounds_toArray, List.set_cons_zero, List.set_cons_succ])
  go_cut [18] (fun v18 wc => ∃ (kq : Nat) (x18_2 : Bool), v18 = .bool x18_2 ∧ Aside0 (relictlaw00_light.j0 kq (wrap64 (a1 - 1)) x18_2 a0_0 a0_1 l0_2 a0_3 a0_4 l0_5 = some r) ∧ Aside0 (kq ≤ k) ∧ Aside0 (wc.heap[gb375]? = some (.cells #[.int .i64 a0_0, .bool a0_1, (.slice A0_2 l0_2.length c0_2), .string a0_3, .int .i64 a0_4, (.slice A0_5 l0_5.length c0_5)] 45 (0, 0))) ∧ Aside0 (Below w.heap.size w wc))
  case first =>
    have H := HC3.out
    clear HC3
    by_cases c5 : (l0_2.length : Int) > 40
    · rw [if_pos c5] at H
      have c5b0 : decide (40 < (l0_2.length : Int)) = true := decide_eq_true c5
      have c5b1 : decide (40 < l0_2.length) = true := decide_eq_true (by omega)
      clear c5
      (first | rw [c5b0] | (simp only [i64_w, i32_w]; rw [c5b0]) | skip)
      have H' := Aside0.mk H
      clear H
      have hcz6_0 : w4.cell? ⟨gb375, 0, none⟩ = some (.int .i64 a0_0) := (blk_cell BK375.out 0).trans rfl
      have hcz6_1 : w4.cell? ⟨gb375, 1, none⟩ = some (.bool a0_1) := (blk_cell BK375.out 1).trans rfl
      have hcz6_2 : w4.cell? ⟨gb375, 2, none⟩ = some (.slice A0_2 l0_2.length c0_2) := (blk_cell BK375.out 2).trans rfl
      have hcz6_3 : w4.cell? ⟨gb375, 3, none⟩ = some (.string a0_3) := (blk_cell BK375.out 3).trans rfl
      have hcz6_4 : w4.cell? ⟨gb375, 4, none⟩ = some (.int .i64 a0_4) := (blk_cell BK375.out 4).trans rfl
      have hcz6_5 : w4.cell? ⟨gb375, 5, none⟩ = some (.slice A0_5 l0_5.length c0_5) := (blk_cell BK375.out 5).trans rfl
      have hfz6_0 := blk_frozen BK375.out 0
      have hfz6_1 := blk_frozen BK375.out 1
      have hfz6_2 := blk_frozen BK375.out 2
      have hfz6_3 := blk_frozen BK375.out 3
      have hfz6_4 := blk_frozen BK375.out 4
      have hfz6_5 := blk_frozen BK375.out 5
      go_wp2
      go_meet
      case rel => exact ⟨_, (true), (by first | rfl | (simp; done) | (simp [*]; done)), H', ⟨by first | omega | exact Nat.le_refl _⟩, ⟨by (with_reducible repeat (first | refine blk_drewN ?_ _ | refine blk_drew ?_ | refine blk_alloc ?_ _)); exact BK375.out⟩, ⟨by repeat (first | (with_reducible first | exact HB.out | apply below_alloc | apply pw_below_drewN | apply below_drew1 | refine below_set ?_ GE375.out) | exact HB.out)⟩⟩
    · rw [if_neg c5] at H
      have c5b0 : decide (40 < (l0_2.length : Int)) = false := decide_eq_false c5
      have c5b1 : decide (40 < l0_2.length) = false := decide_eq_false (by omega)
      clear c5
      (first | rw [c5b0] | (simp only [i64_w, i32_w]; rw [c5b0]) | skip)
      have H' := Aside0.mk H
      clear H
      have hcz7_0 : w4.cell? ⟨gb375, 0, none⟩ = some (.int .i64 a0_0) := (blk_cell BK375.out 0).trans rfl
      have hcz7_1 : w4.cell? ⟨gb375, 1, none⟩ = some (.bool a0_1) := (blk_cell BK375.out 1).trans rfl
      have hcz7_2 : w4.cell? ⟨gb375, 2, none⟩ = some (.slice A0_2 l0_2.length c0_2) := (blk_cell BK375.out 2).trans rfl
      have hcz7_3 : w4.cell? ⟨gb375, 3, none⟩ = some (.string a0_3) := (blk_cell BK375.out 3).trans rfl
      have hcz7_4 : w4.cell? ⟨gb375, 4, none⟩ = some (.int .i64 a0_4) := (blk_cell BK375.out 4).trans rfl
      have hcz7_5 : w4.cell? ⟨gb375, 5, none⟩ = some (.slice A0_5 l0_5.length c0_5) := (blk_cell BK375.out 5).trans rfl
      have hfz7_0 := blk_frozen BK375.out 0
      have hfz7_1 := blk_frozen BK375.out 1
      have hfz7_2 := blk_frozen BK375.out 2
      have hfz7_3 := blk_frozen BK375.out 3
      have hfz7_4 := blk_frozen BK375.out 4
      have hfz7_5 := blk_frozen BK375.out 5
      go_wp2
      go_meet
      case rel => exact ⟨_, (decide ((a0_3.size : Int) > 500)), (by first | rfl | (simp; done) | (simp [*]; done)), H', ⟨by first | omega | exact Nat.le_refl _⟩, ⟨by (with_reducible repeat (first | refine blk_drewN ?_ _ | refine blk_drew ?_ | refine blk_alloc ?_ _)); exact BK375.out⟩, ⟨by repeat (first | (with_reducible first | exact HB.out | apply below_alloc | apply pw_below_drewN | apply below_drew1 | refine below_set ?_ GE375.out) | exact HB.out)⟩⟩
  case rest =>
    clear HC3
    try clear p2
    try clear c5
    try clear c5b0
    try clear c5b1
    try clear p6
    try clear hcz6_0
    try clear hcz6_1
    try clear hcz6_2
    try clear hcz6_3
    try clear hcz6_4
    try clear hcz6_5
    try clear hcz7_0
    try clear hcz7_1
    try clear hcz7_2
    try clear hcz7_3
    try clear hcz7_4
    try clear hcz7_5
    try clear hfz6_0
    try clear hfz6_1
    try clear hfz6_2
    try clear hfz6_3
    try clear hfz6_4
    try clear hfz6_5
    try clear hfz7_0
    try clear hfz7_1
    try clear hfz7_2
    try clear hfz7_3
    try clear hfz7_4
    try clear hfz7_5
    obtain ⟨kq, x18_2, rfl, HA, HJ2, BK375, HB⟩ := hcut
    cases kq with
    | zero => exact absurd HA.out (by simp [relictlaw00_light.j0])
    | succ kj2 =>
      have H := HA.out
      clear HA
      simp only [relictlaw00_light.j0] at H
      by_cases c8 : x18_2 = true
      · subst c8
        have H1 : (some (-1)) = some r := by rw [if_pos rfl] at H; exact H
        clear H
        have H := H1
        clear H1
        obtain rfl := Option.some.inj H
        go_wp2
        go_ret
        exact ⟨by first | rfl | (simp [errW_none, errW_some] <;> rfl) | (simp [*, errW_none, errW_some] <;> rfl), by repeat (first | (with_reducible first | exact HB.out | apply below_alloc | apply pw_below_drewN | apply below_drew1 | refine below_set ?_ GE375.out) | exact HB.out)⟩
      · replace c8 := Bool.eq_false_iff.mpr c8
        subst c8
        have H1 : (relictlaw00_light.l0 kj2 (wrap64 (a1 - 1)) 0 a0_0 a0_1 l0_2 a0_3 a0_4 l0_5) = some r := by rw [if_neg (show ¬ (false = true) by decide)] at H; exact H
        clear H
        have H := H1
        clear H1
        have H' := Aside0.mk H
        clear H
        go_wp2
        go_loopg [1, 5] kj2 (fun kq v1 v5 w' => ∃ (x1_2 : Int) (x5_2 : Int), v1 = .int .i64 x1_2 ∧ v5 = .int .i64 x5_2 ∧ Aside0 (relictlaw00_light.l0 kq x1_2 x5_2 a0_0 a0_1 l0_2 a0_3 a0_4 l0_5 = some r) ∧ Aside0 (kq ≤ kj2) ∧ Aside0 (w'.heap[gb375]? = some (.cells #[.int .i64 a0_0, .bool a0_1, (.slice A0_2 l0_2.length c0_2), .string a0_3, .int .i64 a0_4, (.slice A0_5 l0_5.length c0_5)] 45 (0, 0))) ∧ Aside0 (Below w.heap.size w w'))
        case atStart => exact ⟨((wrap64 (a1 - 1))), (0), (by first | rfl | (simp; done) | (simp [*]; done)), (by first | rfl | (simp; done) | (simp [*]; done)), H', ⟨Nat.le_refl _⟩, ⟨by (with_reducible repeat (first | refine blk_drewN ?_ _ | refine blk_drew ?_ | refine blk_alloc ?_ _)); exact BK375.out⟩, ⟨by repeat (first | (with_reducible first | exact HB.out | apply below_alloc | apply pw_below_drewN | apply below_drew1 | refine below_set ?_ GE375.out) | exact HB.out)⟩⟩
        case round =>
          clear H'
          try clear p2
          try clear c5
          try clear c5b0
          try clear c5b1
          try clear p6
          try clear c8
          try clear hcz6_0
          try clear hcz6_1
          try clear hcz6_2
          try clear hcz6_3
          try clear hcz6_4
          try clear hcz6_5
          try clear hcz7_0
          try clear hcz7_1
          try clear hcz7_2
          try clear hcz7_3
          try clear hcz7_4
          try clear hcz7_5
          try clear hfz6_0
          try clear hfz6_1
          try clear hfz6_2
          try clear hfz6_3
          try clear hfz6_4
          try clear hfz6_5
          try clear hfz7_0
          try clear hfz7_1
          try clear hfz7_2
          try clear hfz7_3
          try clear hfz7_4
          try clear hfz7_5
          try clear p2
          try clear p6
          obtain ⟨x1_2, x5_2, rfl, rfl, HA, HK2, BK375, HB⟩ := hrel
          cases gk with
          | zero => exact absurd HA.out (by simp [relictlaw00_light.l0])
          | succ k2 =>
            have H := HA.out
            clear HA
            simp only [relictlaw00_light.l0] at H
            by_cases c9 : x5_2 < (l0_5.length : Int)
            · rw [if_pos c9] at H
              have c9b0 : decide (x5_2 < (l0_5.length : Int)) = true := decide_eq_true c9
              clear c9
              by_cases c10 : x1_2 ≥ 0
              · rw [if_pos c10] at H
                have c10b0 : decide (0 ≤ x1_2) = true := decide_eq_true c10
                clear c10
                by_cases c11 : 0 ≤ x5_2
                · rw [if_pos c11] at H
                  have c11b0 : decide (0 ≤ x5_2) = true := decide_eq_true c11
                  clear c11
                  replace H := Option.bind_eq_some_iff.mp H
                  obtain ⟨t377, A120, H⟩ := H
                  replace H : (relictlaw00_light.l0 k2 t377 (wrap64 (x5_2 + 1)) a0_0 a0_1 l0_2 a0_3 a0_4 l0_5) = some r := H
                  have A12 := Aside0.mk A120
                  clear A120
                  have H' := Aside0.mk H
                  clear H
                  have hcz13_0 : wr.cell? ⟨gb375, 0, none⟩ = some (.int .i64 a0_0) := (blk_cell BK375.out 0).trans rfl
                  have hcz13_1 : wr.cell? ⟨gb375, 1, none⟩ = some (.bool a0_1) := (blk_cell BK375.out 1).trans rfl
                  have hcz13_2 : wr.cell? ⟨gb375, 2, none⟩ = some (.slice A0_2 l0_2.length c0_2) := (blk_cell BK375.out 2).trans rfl
                  have hcz13_3 : wr.cell? ⟨gb375, 3, none⟩ = some (.string a0_3) := (blk_cell BK375.out 3).trans rfl
                  have hcz13_4 : wr.cell? ⟨gb375, 4, none⟩ = some (.int .i64 a0_4) := (blk_cell BK375.out 4).trans rfl
                  have hcz13_5 : wr.cell? ⟨gb375, 5, none⟩ = some (.slice A0_5 l0_5.length c0_5) := (blk_cell BK375.out 5).trans rfl
                  have hfz13_0 := blk_frozen BK375.out 0
                  have hfz13_1 := blk_frozen BK375.out 1
                  have hfz13_2 := blk_frozen BK375.out 2
                  have hfz13_3 := blk_frozen BK375.out 3
                  have hfz13_4 := blk_frozen BK375.out 4
                  have hfz13_5 := blk_frozen BK375.out 5
                  have p376 : 0 ≤ (x5_2 : Int) := of_decide_eq_true (by first | (with_reducible assumption) | assumption)
                  have q376 : x5_2 < (l0_5.length : Int) := of_decide_eq_true (by first | (with_reducible assumption) | assumption)
                  obtain ⟨ad376, A376_2, c376_2, A376_5, c376_5, e376, hx376_0, hx376_1, hx376_2, hx376_3, hx376_4, hx376_5, hl376_2, hi376_2, hl376_5, hi376_5⟩ := at_T45 HR0_5.out x5_2 p376 q376
                  cases e376
                  replace hx376_0 := (HB.out.cell (World.block_lt_of_cell? w _ hx376_0)).trans hx376_0
                  replace hx376_1 := (HB.out.cell (World.block_lt_of_cell? w _ hx376_1)).trans hx376_1
                  replace hx376_2 := (HB.out.cell (World.block_lt_of_cell? w _ hx376_2)).trans hx376_2
                  replace hx376_3 := (HB.out.cell (World.block_lt_of_cell? w _ hx376_3)).trans hx376_3
                  replace hx376_4 := (HB.out.cell (World.block_lt_of_cell? w _ hx376_4)).trans hx376_4
                  replace hx376_5 := (HB.out.cell (World.block_lt_of_cell? w _ hx376_5)).trans hx376_5
                  have HR376_2 := Aside0.mk hi376_2
                  have HC376_2 := Aside0.mk hl376_2
                  clear hi376_2 hl376_2
                  have HR376_5 := Aside0.mk hi376_5
                  have HC376_5 := Aside0.mk hl376_5
                  clear hi376_5 hl376_5
                  replace p376 := eq_true p376
                  replace q376 := eq_true q376
                  go_wp2_with (first | ((with_reducible refine gate_callee (f := 94) rfl ?_); refine goesL_ (some 36) rfl rfl Try.func94 (by kernel_rfl) rfl #[.agg #[.int .i64 ((rd_T45 l0_5 x5_2).f0), .bool ((rd_T45 l0_5 x5_2).f1.f0), .slice A376_2 ((rd_T45 l0_5 x5_2).f1.f1).length c376_2, .string ((rd_T45 l0_5 x5_2).f2), .int .i64 ((rd_T45 l0_5 x5_2).f3), .slice A376_5 ((rd_T45 l0_5 x5_2).f4).length c376_5], .int .i64 x1_2] rfl (by (try simp only [List.map_toArray, List.map_cons, List.map_nil]); first | done | rfl | (simp only [List.length_drop, List.length_take]; rfl)) ?_; (with_reducible refine (ih k2 (by have := HJ2.out; have := HK2.out; omega) ((rd_T45 l0_5 x5_2).f0) ((rd_T45 l0_5 x5_2).f1.f0) _ _ ((rd_T45 l0_5 x5_2).f1.f1) ((rd_T45 l0_5 x5_2).f2) ((rd_T45 l0_5 x5_2).f3) _ _ ((rd_T45 l0_5 x5_2).f4) x1_2 t377 _ ?side1 ?side2 ?side3 ?side4 A12.out).mono ?_); (case side1 => repeat (first | exact (Kd.C_below HR376_2.out HB.out) | (with_reducible refine Kd.C_alloc ?_ _) | (with_reducible refine Kd.C_drewN ?_ _) | (with_reducible refine Kd.C_drew ?_))); (case side2 => exact HC376_2.out); (case side3 => repeat (first | exact (Kd.C_below HR376_5.out HB.out) | (with_reducible refine Kd.C_alloc ?_ _) | (with_reducible refine Kd.C_drewN ?_ _) | (with_reducible refine Kd.C_drew ?_))); (case side4 => exact HC376_5.out); rintro e w14 ⟨rfl, hb⟩; refine ⟨_, rfl, ?_⟩; have n0_ := Aside0.mk (blk_below (g := gb375) (o := .cells #[.int .i64 a0_0, .bool a0_1, .slice A0_2 l0_2.length c0_2, .string a0_3, .int .i64 a0_4, .slice (some ad376) l0_5.length c0_5] 45 (0, 0)) (by (with_reducible repeat (first | refine blk_drewN ?_ _ | refine blk_drew ?_ | refine blk_alloc ?_ _)); exact BK375.out) hb); have n1_ := Aside0.mk (below_step (by repeat (first | (with_reducible first | exact HB.out | apply below_alloc | apply pw_below_drewN | apply below_drew1 | refine below_set ?_ GE375.out) | exact HB.out)) hb); clear BK375; clear HB; have BK375 := n0_; have HB := n1_; clear n0_ n1_; (try clear hb); (try clear hb2); (try clear hk); (try clear hi)))
                  go_roundg k2
                  case measure => have := HJ2.out; have := HK2.out; omega
                  case rel => exact ⟨(t377), (wrap64 (x5_2 + 1)), (by first | rfl | (simp; done) | (simp [*]; done)), (by first | rfl | (simp; done) | (simp [*]; done)), H', ⟨by have := HJ2.out; have := HK2.out; omega⟩, ⟨by (with_reducible repeat (first | refine blk_drewN ?_ _ | refine blk_drew ?_ | refine blk_alloc ?_ _)); exact BK375.out⟩, ⟨by repeat (first | (with_reducible first | exact HB.out | apply below_alloc | apply pw_below_drewN | apply below_drew1 | refine below_set ?_ GE375.out) | exact HB.out)⟩⟩
                · rw [if_neg c11] at H
                  exact absurd H (by simp)
              · rw [if_neg c10] at H
                have c10b0 : decide (0 ≤ x1_2) = false := decide_eq_false c10
                clear c10
                obtain rfl := Option.some.inj H
                have hcz15_0 : wr.cell? ⟨gb375, 0, none⟩ = some (.int .i64 a0_0) := (blk_cell BK375.out 0).trans rfl
                have hcz15_1 : wr.cell? ⟨gb375, 1, none⟩ = some (.bool a0_1) := (blk_cell BK375.out 1).trans rfl
                have hcz15_2 : wr.cell? ⟨gb375, 2, none⟩ = some (.slice A0_2 l0_2.length c0_2) := (blk_cell BK375.out 2).trans rfl
                have hcz15_3 : wr.cell? ⟨gb375, 3, none⟩ = some (.string a0_3) := (blk_cell BK375.out 3).trans rfl
                have hcz15_4 : wr.cell? ⟨gb375, 4, none⟩ = some (.int .i64 a0_4) := (blk_cell BK375.out 4).trans rfl
                have hcz15_5 : wr.cell? ⟨gb375, 5, none⟩ = some (.slice A0_5 l0_5.length c0_5) := (blk_cell BK375.out 5).trans rfl
                have hfz15_0 := blk_frozen BK375.out 0
                have hfz15_1 := blk_frozen BK375.out 1
                have hfz15_2 := blk_frozen BK375.out 2
                have hfz15_3 := blk_frozen BK375.out 3
                have hfz15_4 := blk_frozen BK375.out 4
                have hfz15_5 := blk_frozen BK375.out 5
                go_wp2
                go_ret
                exact ⟨by first | rfl | (simp [errW_none, errW_some] <;> rfl) | (simp [*, errW_none, errW_some] <;> rfl), by repeat (first | (with_reducible first | exact HB.out | apply below_alloc | apply pw_below_drewN | apply below_drew1 | refine below_set ?_ GE375.out) | exact HB.out)⟩
            · rw [if_neg c9] at H
              have c9b0 : decide (x5_2 < (l0_5.length : Int)) = false := decide_eq_false c9
              clear c9
              obtain rfl := Option.some.inj H
              have hcz16_0 : wr.cell? ⟨gb375, 0, none⟩ = some (.int .i64 a0_0) := (blk_cell BK375.out 0).trans rfl
              have hcz16_1 : wr.cell? ⟨gb375, 1, none⟩ = some (.bool a0_1) := (blk_cell BK375.out 1).trans rfl
              have hcz16_2 : wr.cell? ⟨gb375, 2, none⟩ = some (.slice A0_2 l0_2.length c0_2) := (blk_cell BK375.out 2).trans rfl
              have hcz16_3 : wr.cell? ⟨gb375, 3, none⟩ = some (.string a0_3) := (blk_cell BK375.out 3).trans rfl
              have hcz16_4 : wr.cell? ⟨gb375, 4, none⟩ = some (.int .i64 a0_4) := (blk_cell BK375.out 4).trans rfl
              have hcz16_5 : wr.cell? ⟨gb375, 5, none⟩ = some (.slice A0_5 l0_5.length c0_5) := (blk_cell BK375.out 5).trans rfl
              have hfz16_0 := blk_frozen BK375.out 0
              have hfz16_1 := blk_frozen BK375.out 1
              have hfz16_2 := blk_frozen BK375.out 2
              have hfz16_3 := blk_frozen BK375.out 3
              have hfz16_4 := blk_frozen BK375.out 4
              have hfz16_5 := blk_frozen BK375.out 5
              go_wp2
              go_ret
              exact ⟨by first | rfl | (simp [errW_none, errW_some] <;> rfl) | (simp [*, errW_none, errW_some] <;> rfl), by repeat (first | (with_reducible first | exact HB.out | apply below_alloc | apply pw_below_drewN | apply below_drew1 | refine below_set ?_ GE375.out) | exact HB.out)⟩

/-! ### relictlaw00_Light: function 38 -/
def relictlaw00_Light.f (k : Nat) (a0_0 : Int) (a0_1 : Bool) (l0_2 : List Int) (a0_3 : ByteArray) (a0_4 : Int) (l0_5 : List (S45)) (a1 : Int) : Option (Bool) := (relictlaw00_light.f k a0_0 a0_1 l0_2 a0_3 a0_4 l0_5 a1).bind fun t379 => (some (decide (t379 ≥ 0)))
theorem relictlaw00_Light.mono : ∀ a0 a1 a2 a3 a4 a5 a6 k, LeO (relictlaw00_Light.f k a0 a1 a2 a3 a4 a5 a6) (relictlaw00_Light.f (k + 1) a0 a1 a2 a3 a4 a5 a6) := by
  intro a0 a1 a2 a3 a4 a5 a6 k
  unfold relictlaw00_Light.f
  repeat' first
      | (with_reducible exact relictlaw00_light.mono _ _ _ _ _ _ _ _)
      | (with_reducible exact LeO.refl _)
      | (with_reducible exact LeO.none _)
      | (with_reducible refine LeO.ite ?_ ?_)
      | (with_reducible refine LeO.bind ?_ (fun _ => ?_))
      | exact relictlaw00_light.mono _ _ _ _ _ _ _ _
      | exact LeO.none _
      | refine LeO.ite ?_ ?_
      | refine LeO.bind ?_ (fun _ => ?_)
set_option maxHeartbeats 8000000 in
set_option maxRecDepth 100000 in
theorem relictlaw00_Light.calls (k : Nat) (a0_0 : Int) (a0_1 : Bool) (A0_2 : Option Addr) (c0_2 : Nat) (l0_2 : List Int) (a0_3 : ByteArray) (a0_4 : Int) (A0_5 : Option Addr) (c0_5 : Nat) (l0_5 : List (S45)) (a1 : Int) (r : Bool) (w : World) (hr0_2 : Kd.C (Kd.int .u32) w A0_2 l0_2.length l0_2) (hc0_2 : l0_2.length ≤ c0_2) (hr0_5 : Kd.C k45 w A0_5 l0_5.length l0_5) (hc0_5 : l0_5.length ≤ c0_5) (h : relictlaw00_Light.f k a0_0 a0_1 l0_2 a0_3 a0_4 l0_5 a1 = some r) :
    Calls Try.prog 38 #[.agg #[.int .i64 a0_0, .bool a0_1, .slice A0_2 l0_2.length c0_2, .string a0_3, .int .i64 a0_4, .slice A0_5 l0_5.length c0_5], .int .i64 a1] w fun e w' => e = .returned (.bool r) ∧ Below w.heap.size w w' := by
  have hu45 := Try.underlying45
  have HR0_2 := Aside0.mk hr0_2
  have HC0_2 := Aside0.mk hc0_2
  clear hr0_2 hc0_2
  have HR0_5 := Aside0.mk hr0_5
  have HC0_5 := Aside0.mk hc0_5
  clear hr0_5 hc0_5
  have HB := Aside0.mk (Below.refl w.heap.size w)
  have H : ((relictlaw00_light.f k a0_0 a0_1 l0_2 a0_3 a0_4 l0_5 a1).bind fun t379 => (some (decide (t379 ≥ 0)))) = some r := h
  clear h
  replace H := Option.bind_eq_some_iff.mp H
  obtain ⟨t379, A30, H⟩ := H
  replace H : (some (decide (t379 ≥ 0))) = some r := H
  have A3 := Aside0.mk A30
  clear A30
  obtain rfl := Option.some.inj H
  go_enter Try.func38, Try.ntmps38
  go_wp2_with (first | ((with_reducible refine gate_dst (N := 2) rfl ?_); refine box_event ?hg (N := 2) ?hd (cs := #[.int .i64 a0_0, .bool a0_1, .slice A0_2 l0_2.length c0_2, .string a0_3, .int .i64 a0_4, .slice A0_5 l0_5.length c0_5]) (t := 45) ?hr ?_; (case hd => rfl); (case hg => rfl); (case hr => first | (go_simp; done) | (go_simp; rfl)); intro gb378 hg w4 hbox hb; have n0_ := Aside0.mk (below_step (by repeat (first | (with_reducible first | exact HB.out | apply below_alloc | apply pw_below_drewN | apply below_drew1) | exact HB.out)) hb); have n1_ := Aside0.mk (hbox); have n2_ := Aside0.mk ((by rw [hg]; exact (below_size (by repeat (first | (with_reducible first | exact HB.out | apply below_alloc | apply pw_below_drewN | apply below_drew1) | exact HB.out))) : w.heap.size ≤ gb378)); have n3_ := Aside0.mk ((by rw [hg]; exact (below_size (by repeat (first | (with_reducible first | exact HB.out | apply below_alloc | apply pw_below_drewN | apply below_drew1) | exact HB.out))) : w.heap.size ≤ gb378)); clear HB; have HB := n0_; have BK378 := n1_; have GW378 := n2_; have GE378 := n3_; clear n0_ n1_ n2_ n3_; clear hb hbox hg; have hcz5_0 : w4.cell? ⟨gb378, 0, none⟩ = some (.int .i64 a0_0) := (blk_cell BK378.out 0).trans rfl; have hcz5_1 : w4.cell? ⟨gb378, 1, none⟩ = some (.bool a0_1) := (blk_cell BK378.out 1).trans rfl; have hcz5_2 : w4.cell? ⟨gb378, 2, none⟩ = some (.slice A0_2 l0_2.length c0_2) := (blk_cell BK378.out 2).trans rfl; have hcz5_3 : w4.cell? ⟨gb378, 3, none⟩ = some (.string a0_3) := (blk_cell BK378.out 3).trans rfl; have hcz5_4 : w4.cell? ⟨gb378, 4, none⟩ = some (.int .i64 a0_4) := (blk_cell BK378.out 4).trans rfl; have hcz5_5 : w4.cell? ⟨gb378, 5, none⟩ = some (.slice A0_5 l0_5.length c0_5) := (blk_cell BK378.out 5).trans rfl; have hfz5_0 := blk_frozen BK378.out 0; have hfz5_1 := blk_frozen BK378.out 1; have hfz5_2 := blk_frozen BK378.out 2; have hfz5_3 := blk_frozen BK378.out 3; have hfz5_4 := blk_frozen BK378.out 4; have hfz5_5 := blk_frozen BK378.out 5) | ((with_reducible refine gate_callee (f := 94) rfl ?_); refine goesL_ (some 7) rfl rfl Try.func94 (by kernel_rfl) rfl #[.agg #[.int .i64 a0_0, .bool a0_1, .slice A0_2 l0_2.length c0_2, .string a0_3, .int .i64 a0_4, .slice A0_5 l0_5.length c0_5], .int .i64 a1] rfl (by (try simp only [List.map_toArray, List.map_cons, List.map_nil]); first | done | rfl | (simp only [List.length_drop, List.length_take]; rfl)) ?_; (with_reducible refine (relictlaw00_light.calls k a0_0 a0_1 _ _ l0_2 a0_3 a0_4 _ _ l0_5 a1 t379 _ ?side1 ?side2 ?side3 ?side4 A3.out).mono ?_); (case side1 => repeat (first | exact (Kd.C_below HR0_2.out HB.out) | (with_reducible refine Kd.C_alloc ?_ _) | (with_reducible refine Kd.C_drewN ?_ _) | (with_reducible refine Kd.C_drew ?_))); (case side2 => exact HC0_2.out); (case side3 => repeat (first | exact (Kd.C_below HR0_5.out HB.out) | (with_reducible refine Kd.C_alloc ?_ _) | (with_reducible refine Kd.C_drewN ?_ _) | (with_reducible refine Kd.C_drew ?_))); (case side4 => exact HC0_5.out); rintro e w6 ⟨rfl, hb⟩; refine ⟨_, rfl, ?_⟩; have n0_ := Aside0.mk (blk_below (g := gb378) (o := .cells #[.int .i64 a0_0, .bool a0_1, .slice A0_2 l0_2.length c0_2, .string a0_3, .int .i64 a0_4, .slice A0_5 l0_5.length c0_5] 45 (0, 0)) (by (with_reducible repeat (first | refine blk_drewN ?_ _ | refine blk_drew ?_ | refine blk_alloc ?_ _)); exact BK378.out) hb); have n1_ := Aside0.mk (below_step (by repeat (first | (with_reducible first | exact HB.out | apply below_alloc | apply pw_below_drewN | apply below_drew1 | refine below_set ?_ GE378.out) | exact HB.out)) hb); clear BK378; clear HB; have BK378 := n0_; have HB := n1_; clear n0_ n1_; (try clear hb); (try clear hb2); (try clear hk); (try clear hi)))
  go_ret
  exact ⟨by first | rfl | (simp [errW_none, errW_some] <;> rfl) | (simp [*, errW_none, errW_some] <;> rfl), by repeat (first | (with_reducible first | exact HB.out | apply below_alloc | apply pw_below_drewN | apply below_drew1 | refine below_set ?_ GE378.out) | exact HB.out)⟩

/-! ### relictlaw00_Limbs: function 116 -/
def relictlaw00_Limbs.f (l0 : List Int) : Option (List Int) := if l0.length ≤ 1000 then some l0 else none
theorem relictlaw00_Limbs.calls (A0 : Option Addr) (c0 : Nat) (l0 : List Int) (r : List Int) (w : World) (hr0 : Kd.C (Kd.int .u32) w A0 l0.length l0) (hc0 : l0.length ≤ c0) (h : relictlaw00_Limbs.f l0 = some r) :
    Calls Try.prog 116 #[.slice A0 l0.length c0] w fun e w' => ∃ v0_ : Value, e = .returned (v0_) ∧ Kd.R (Kd.int .u32) 123 w' w.heap.size (fun _ => True) v0_ r ∧ Below w.heap.size w w' := by
  unfold relictlaw00_Limbs.f at h
  split at h
  · injection h with h
    subst h
    exact Go.Proofs.YthdmacdeefohkaaLeaf.limbs_calls w A0 c0 l0 (Kd.reads_of_C (enc := Value.int .u32) (d := (0 : Int)) (h1 := fun _ => rfl) hr0) (by omega)
  · cases h

/-! ### relictlaw00_Num: function 95 -/
def relictlaw00_Num.f (a0_0 : Bool) (l0_1 : List Int) : Option (Bool × List Int) := (relictlaw00_Limbs.f l0_1).bind fun t385 => (some (a0_0, t385))
set_option maxHeartbeats 8000000 in
set_option maxRecDepth 100000 in
theorem relictlaw00_Num.calls (a0_0 : Bool) (A0_1 : Option Addr) (c0_1 : Nat) (l0_1 : List Int) (r1 : Bool) (r2 : List Int) (w : World) (hr0_1 : Kd.C (Kd.int .u32) w A0_1 l0_1.length l0_1) (hc0_1 : l0_1.length ≤ c0_1) (h : relictlaw00_Num.f a0_0 l0_1 = some (r1, r2)) :
    Calls Try.prog 95 #[.agg #[.bool a0_0, .slice A0_1 l0_1.length c0_1]] w fun e w' => ∃ v1_ : Value, e = .returned (.agg #[.bool r1, v1_]) ∧ Kd.R (Kd.int .u32) 123 w' w.heap.size (fun _ => True) v1_ r2 ∧ Below w.heap.size w w' := by
  have hu42 := Try.underlying42
  have HR0_1 := Aside0.mk hr0_1
  have HC0_1 := Aside0.mk hc0_1
  clear hr0_1 hc0_1
  have HB := Aside0.mk (Below.refl w.heap.size w)
  have H : ((relictlaw00_Limbs.f l0_1).bind fun t385 => (some (a0_0, t385))) = some (r1, r2) := h
  clear h
  replace H := Option.bind_eq_some_iff.mp H
  obtain ⟨t385, A20, H⟩ := H
  replace H : (some (a0_0, t385)) = some (r1, r2) := H
  have A2 := Aside0.mk A20
  clear A20
  simp only [Option.some.injEq, Prod.mk.injEq] at H
  obtain ⟨rfl, rfl⟩ := H
  go_enter Try.func95, Try.ntmps95
  try go_wp2_with (first | ((with_reducible refine gate_dst (N := 1) rfl ?_); refine box_event ?hg (N := 1) ?hd (cs := #[.bool a0_0, .slice A0_1 l0_1.length c0_1]) (t := 42) ?hr ?_; (case hd => rfl); (case hg => rfl); (case hr => first | (go_simp; done) | (go_simp; rfl)); intro gb383 hg w3 hbox hb; have n0_ := Aside0.mk (below_step (by repeat (first | (with_reducible first | exact HB.out | apply below_alloc | apply pw_below_drewN | apply below_drew1) | exact HB.out)) hb); have n1_ := Aside0.mk (hbox); have n2_ := Aside0.mk ((by rw [hg]; exact (below_size (by repeat (first | (with_reducible first | exact HB.out | apply below_alloc | apply pw_below_drewN | apply below_drew1) | exact HB.out))) : w.heap.size ≤ gb383)); have n3_ := Aside0.mk ((by rw [hg]; exact (below_size (by repeat (first | (with_reducible first | exact HB.out | apply below_alloc | apply pw_below_drewN | apply below_drew1) | exact HB.out))) : w.heap.size ≤ gb383)); clear HB; have HB := n0_; have BK383 := n1_; have GW383 := n2_; have GE383 := n3_; clear n0_ n1_ n2_ n3_; clear hb hbox hg) | ((with_reducible refine gate_dst (N := 2) rfl ?_); refine box_event ?hg (N := 2) ?hd (cs := #[.bool false, .slice none 0 0]) (t := 42) ?hr ?_; (case hd => rfl); (case hg => rfl); (case hr => first | (go_simp; done) | (go_simp; rfl)); intro gb384 hg w4 hbox hb; have n0_ := Aside0.mk (blk_below (g := gb383) (o := .cells #[.bool a0_0, .slice A0_1 l0_1.length c0_1] 42 (0, 0)) (by (with_reducible repeat (first | refine blk_drewN ?_ _ | refine blk_drew ?_ | refine blk_alloc ?_ _)); exact BK383.out) hb); have n1_ := Aside0.mk (below_step (by repeat (first | (with_reducible first | exact HB.out | apply below_alloc | apply pw_below_drewN | apply below_drew1 | refine below_set ?_ GE383.out) | exact HB.out)) hb); have n2_ := Aside0.mk (hbox); have n3_ := Aside0.mk ((by rw [hg]; exact (below_size (by repeat (first | (with_reducible first | exact HB.out | apply below_alloc | apply pw_below_drewN | apply below_drew1 | refine below_set ?_ GE383.out) | exact HB.out))) : w.heap.size ≤ gb384)); have n4_ := Aside0.mk ((by rw [hg]; exact (below_size (by repeat (first | (with_reducible first | exact HB.out | apply below_alloc | apply pw_below_drewN | apply below_drew1 | refine below_set ?_ GE383.out) | exact HB.out))) : w.heap.size ≤ gb384)); have n5_ := Aside0.mk ((by rw [hg]; exact Nat.ne_of_lt (blk_lt (g := gb383) (o := .cells #[.bool a0_0, .slice A0_1 l0_1.length c0_1] 42 (0, 0)) (by (with_reducible repeat (first | refine blk_drewN ?_ _ | refine blk_drew ?_ | refine blk_alloc ?_ _)); exact BK383.out)) : gb383 ≠ gb384)); have n6_ := Aside0.mk ((by rw [hg]; exact Nat.ne_of_gt (blk_lt (g := gb383) (o := .cells #[.bool a0_0, .slice A0_1 l0_1.length c0_1] 42 (0, 0)) (by (with_reducible repeat (first | refine blk_drewN ?_ _ | refine blk_drew ?_ | refine blk_alloc ?_ _)); exact BK383.out)) : gb384 ≠ gb383)); clear BK383; clear HB; have BK383 := n0_; have HB := n1_; have BK384 := n2_; have GW384 := n3_; have GE384 := n4_; have NB383_384 := n5_; have NB384_383 := n6_; clear n0_ n1_ n2_ n3_ n4_ n5_ n6_; clear hb hbox hg))
  have n0_ := Aside0.mk (blk_drew BK383.out)
  have n1_ := Aside0.mk (blk_drew BK384.out)
  have n2_ := Aside0.mk (below_drew1 HB.out)
  clear BK383
  clear BK384
  clear HB
  have BK383 := n0_
  have BK384 := n1_
  have HB := n2_
  clear n0_ n1_ n2_
  refine start_ (n := 7) (S := fun w' => w'.cell? ⟨gb383, 0, none⟩ = some (.bool a0_0) ∧ w'.cell? ⟨gb383, 1, none⟩ = some (.slice A0_1 l0_1.length c0_1)) (ds := []) #[false, false, false, false, false, false, false] (by kernel_rfl) rfl rfl ⟨(blk_cell BK383.out 0).trans rfl, (blk_cell BK383.out 1).trans rfl⟩ (fun hHeld => ?_)
  generalize w4.drew = w5 at BK383 BK384 HB hHeld ⊢
  refine pure_ (i := 0) (N := some 3) (v := ?_) (a' := ?_) #[true, false, false, false, false, false, false] rfl rfl (by kernel_rfl) (fun _ _ _ h => h) (Or.inl ⟨by rfl, ?_⟩) ?_ ?_
  rotate_left
  · intro w'
    go_simp
    with_reducible rfl
  rotate_left
  · simp only [Act.put, List.setIfInBounds_toArray, List.set_cons_zero, List.set_cons_succ, i64_w, i32_w]
    rfl
  refine pure_ (i := 2) (N := some 5) (v := ?_) (a' := ?_) #[true, false, true, false, false, false, false] rfl rfl (by kernel_rfl) (fun _ _ _ h => h) (Or.inl ⟨by rfl, ?_⟩) ?_ ?_
  rotate_left
  · intro w'
    go_simp
    with_reducible rfl
  rotate_left
  · simp only [Act.put, List.setIfInBounds_toArray, List.set_cons_zero, List.set_cons_succ, i64_w, i32_w]
    rfl
  refine take_ (i := 1) (N := some 4) (v := ?_) (a' := ?_) #[true, true, true, false, false, false, false] rfl rfl (by kernel_rfl) (fun _ _ _ h => h) (Or.inl ⟨by rfl, ?_⟩) hHeld ?_ ?_
  rotate_left
  · rintro w' ⟨s0, s1⟩
    go_simp
    with_reducible rfl
  rotate_left
  · simp only [Act.put, List.setIfInBounds_toArray, List.set_cons_zero, List.set_cons_succ, i64_w, i32_w]
    rfl
  refine take_ (i := 3) (N := some 6) (v := ?_) (a' := ?_) #[true, true, true, true, false, false, false] rfl rfl (by kernel_rfl) (fun _ _ _ h => h) (Or.inl ⟨by rfl, ?_⟩) hHeld ?_ ?_
  rotate_left
  · rintro w' ⟨s0, s1⟩
    go_simp
    with_reducible rfl
  rotate_left
  · simp only [Act.put, List.setIfInBounds_toArray, List.set_cons_zero, List.set_cons_succ, i64_w, i32_w]
    rfl
  refine one_ (i := 4) (N := some 7) #[true, true, true, true, true, false, false] rfl rfl (by kernel_rfl) (by decide) (fun K hK => ?_)
  refine goes_ Try.func116 (by kernel_rfl) rfl #[.slice A0_1 l0_1.length c0_1] (by rfl) rfl rfl (by (try simp only [List.map_toArray, List.map_cons, List.map_nil]); first | done | rfl | (simp only [List.length_drop, List.length_take]; rfl)) ?_
  with_reducible refine (relictlaw00_Limbs.calls _ _ l0_1 t385 _ ?side1 ?side2 A2.out).mono ?_
  (case side1 => repeat (first | exact (Kd.C_below HR0_1.out HB.out) | (with_reducible refine Kd.C_alloc ?_ _) | (with_reducible refine Kd.C_drewN ?_ _) | (with_reducible refine Kd.C_drew ?_)))
  (case side2 => exact HC0_1.out)
  rintro e w6 ⟨v386, rfl, ho0, hb⟩
  refine ⟨_, rfl, ?_⟩
  have n0_ := Aside0.mk (Kd.R_lower ho0 (below_size (by repeat (first | (with_reducible first | exact HB.out | apply below_alloc | apply pw_below_drewN | apply below_drew1 | refine below_set ?_ GE383.out | refine below_set ?_ GE384.out) | exact HB.out))))
  have n1_ := Aside0.mk (blk_below (g := gb383) (o := .cells #[.bool a0_0, .slice A0_1 l0_1.length c0_1] 42 (0, 0)) (by (with_reducible repeat (first | refine blk_drewN ?_ _ | refine blk_drew ?_ | refine blk_alloc ?_ _)); exact BK383.out) hb)
  have n2_ := Aside0.mk (blk_below (g := gb384) (o := .cells #[.bool false, .slice none 0 0] 42 (0, 0)) (by (with_reducible repeat (first | refine blk_drewN ?_ _ | refine blk_drew ?_ | refine blk_alloc ?_ _)); exact BK384.out) hb)
  have n3_ := Aside0.mk (below_step (by repeat (first | (with_reducible first | exact HB.out | apply below_alloc | apply pw_below_drewN | apply below_drew1 | refine below_set ?_ GE383.out | refine below_set ?_ GE384.out) | exact HB.out)) hb)
  clear BK383
  clear BK384
  clear HB
  have HO387 := n0_
  have BK383 := n1_
  have BK384 := n2_
  have HB := n3_
  clear n0_ n1_ n2_ n3_
  (try clear hb)
  (try clear hb2)
  (try clear hk)
  (try clear hi)
  (try clear ho0)
  obtain ⟨Ao7, co7, eo7⟩ := Kd.R_slice HO387.out
  (first | subst eo7 | (injection eo7 with f1_ f2_ f3_; have f4_ := f1_.symm; have f5_ := f3_.symm; clear f1_ f2_ f3_; subst f4_; subst f5_))
  refine hK.out _ _ ⟨(blk_cell BK383.out 0).trans rfl, (blk_cell BK383.out 1).trans rfl⟩ (fun hHeld => ?_)
  clear hK K
  refine norm_ (a' := ?_) ?_ ?_
  rotate_left
  · show Act.put _ (some 7) _ = _
    simp only [Act.put, List.setIfInBounds_toArray, List.set_cons_zero, List.set_cons_succ, i64_w, i32_w]
    rfl
  refine pure_ (i := 5) (N := some 8) (v := ?_) (a' := ?_) #[true, true, true, true, true, true, false] rfl rfl (by kernel_rfl) (fun _ _ _ h => h) (Or.inl ⟨by rfl, ?_⟩) ?_ ?_
  rotate_left
  · intro w'
    go_simp
    with_reducible rfl
  rotate_left
  · simp only [Act.put, List.setIfInBounds_toArray, List.set_cons_zero, List.set_cons_succ, i64_w, i32_w]
    rfl
  refine one_ (i := 6) (N := none) #[true, true, true, true, true, true, true] rfl rfl (by kernel_rfl) (by decide) (fun K hK => ?_)
  have hs8 : w6.cell? ⟨gb384, 0, none⟩ = some (.bool false) := (blk_cell BK384.out 0).trans rfl
  have hfs8 := blk_frozen BK384.out 0
  have hns8_0 := NB383_384.out
  have hms8_0 := NB384_383.out
  have hs9 : w6.cell? ⟨gb384, 1, none⟩ = some (.slice none 0 0) := (blk_cell BK384.out 1).trans rfl
  have hfs9 := blk_frozen BK384.out 1
  have hns9_0 := NB383_384.out
  have hms9_0 := NB384_383.out
  refine skip_ (w1 := ?_) (by rfl) rfl ?_ ?_
  rotate_left
  · go_simp
    rfl
  refine hK.out _ _ ⟨((cell_far (p := ⟨gb384, _, none⟩) NB383_384.out _).trans (((cell_far (p := ⟨gb384, _, none⟩) NB383_384.out _).trans (hHeld.1)))), ((cell_far (p := ⟨gb384, _, none⟩) NB383_384.out _).trans (((cell_far (p := ⟨gb384, _, none⟩) NB383_384.out _).trans (hHeld.2))))⟩ (fun hHeld => ?_)
  clear hK K
  refine done_ (by kernel_rfl) ?_
  try go_wp2
  refine bodyPost_ret (results_cell_row rfl _ _ gb384 42 #[.bool a0_0, .slice Ao7 t385.length co7] (0, 0) _ rfl (by (with_reducible repeat (first | refine blk_drewN ?_ _ | refine blk_drew ?_ | refine blk_alloc ?_ _)); refine blk_put (cs := #[.bool a0_0, .slice none 0 0]) ?_ 1 _ rfl; (with_reducible repeat (first | refine blk_drewN ?_ _ | refine blk_drew ?_ | refine blk_alloc ?_ _)); refine blk_put (cs := #[.bool false, .slice none 0 0]) ?_ 0 _ rfl; (with_reducible repeat (first | refine blk_drewN ?_ _ | refine blk_drew ?_ | refine blk_alloc ?_ _)); exact BK384.out) Try.underlying42 rfl (by kernel_rfl)) rfl ?_
  exact ⟨_, by first | rfl | (simp [errW_none, errW_some] <;> rfl) | (simp [*, errW_none, errW_some] <;> rfl), by (with_reducible repeat (first | apply Kd.R_alloc | apply Kd.R_drewN | apply Kd.R_drew)); exact Kd.R_mono (Kd.R_far (p := ⟨gb384, 1, none⟩) (Kd.R_far (p := ⟨gb384, 0, none⟩) (Kd.R_types HO387.out BK384.out (by decide)) (fun _ hk => hk.2) (.bool a0_0)) (fun _ hk => hk.2) (.slice Ao7 t385.length co7)) (fun _ hk => trivial), by repeat (first | (with_reducible first | exact HB.out | apply below_alloc | apply pw_below_drewN | apply below_drew1 | refine below_set ?_ GE383.out | refine below_set ?_ GE384.out) | exact HB.out)⟩


end Go.Proofs.Ythdmacdeefohkaa.PMa
