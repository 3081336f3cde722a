-- Printed by the kit's print.py from a list of bodies that this session turned in four places; parts of it are this session's own.
import Derived.Test.YtlifdpfhepamfaaPHe0
namespace Go.Proofs.Ytlifdpfhepamfaa.PHe
open Go.RowKit Go.Proofs.YtlifdpfhepamfaaW.PrintWords Go.Proofs.YtlifdpfhepamfaaW.PrintLast Go.Proofs.YtlifdpfhepamfaaW.PrintMore
attribute [local go_sem] max2_int min2_int max_two min_two max_three min_three max_four min_four   -- for this text's walks alone
set_option linter.unusedVariables false
set_option linter.unusedSimpArgs false

/-! ### relictref03_Nodes: function 54 -/
mutual
def relictref03_Nodes.l0 : Nat → Int → Int → Int → Bool → List Int → ByteArray → Int → List (S43) → Option (Int)
  | 0, _, _, _, _, _, _, _, _ => none
  | k + 1, x3, x4, x191000, x191001, x191002, x191003, x191004, x191005 => if x4 < (x191005.length : Int) then (if 0 ≤ x4 then ((relictref03_Nodes.f k ((rd_T43 x191005 x4).f0) ((rd_T43 x191005 x4).f1.f0) ((rd_T43 x191005 x4).f1.f1) ((rd_T43 x191005 x4).f2) ((rd_T43 x191005 x4).f3) ((rd_T43 x191005 x4).f4)).bind fun t192 => (relictref03_Nodes.l0 k (wrap64 (x3 + t192)) (wrap64 (x4 + 1)) x191000 x191001 x191002 x191003 x191004 x191005)) else (none)) else (some x3)
def relictref03_Nodes.f : Nat → Int → Bool → List Int → ByteArray → Int → List (S43) → Option (Int)
  | 0, _, _, _, _, _, _ => none
  | k + 1, a0_0, a0_1, l0_2, a0_3, a0_4, l0_5 => relictref03_Nodes.l0 k 1 0 a0_0 a0_1 l0_2 a0_3 a0_4 l0_5
end
theorem relictref03_Nodes.mono_l : ∀ k, (∀ y0 y1 y2 y3 y4 y5, LeO (relictref03_Nodes.f k y0 y1 y2 y3 y4 y5) (relictref03_Nodes.f (k + 1) y0 y1 y2 y3 y4 y5)) ∧ (∀ y0 y1 y2 y3 y4 y5 y6 y7, LeO (relictref03_Nodes.l0 k y0 y1 y2 y3 y4 y5 y6 y7) (relictref03_Nodes.l0 (k + 1) y0 y1 y2 y3 y4 y5 y6 y7))
  | 0 => ⟨fun _ _ _ _ _ _ r h => by simp [relictref03_Nodes.f] at h, fun _ _ _ _ _ _ _ _ r h => by simp [relictref03_Nodes.l0] at h⟩
  | k + 1 => by
    obtain ⟨ih0, ih1⟩ := relictref03_Nodes.mono_l k
    refine ⟨?_, ?_⟩
    · intro y0 y1 y2 y3 y4 y5
      unfold relictref03_Nodes.f
      repeat' first
      | (with_reducible exact ih0 _ _ _ _ _ _)
      | (with_reducible exact ih1 _ _ _ _ _ _ _ _)
      | (with_reducible exact LeO.refl _)
      | (with_reducible exact LeO.none _)
      | (with_reducible refine LeO.ite ?_ ?_)
      | (with_reducible refine LeO.bind ?_ (fun _ => ?_))
      | exact ih0 _ _ _ _ _ _
      | exact ih1 _ _ _ _ _ _ _ _
      | exact LeO.none _
      | refine LeO.ite ?_ ?_
      | refine LeO.bind ?_ (fun _ => ?_)
    · intro y0 y1 y2 y3 y4 y5 y6 y7
      unfold relictref03_Nodes.l0
      repeat' first
      | (with_reducible exact ih0 _ _ _ _ _ _)
      | (with_reducible exact ih1 _ _ _ _ _ _ _ _)
      | (with_reducible exact LeO.refl _)
      | (with_reducible exact LeO.none _)
      | (with_reducible refine LeO.ite ?_ ?_)
      | (with_reducible refine LeO.bind ?_ (fun _ => ?_))
      | exact ih0 _ _ _ _ _ _
      | exact ih1 _ _ _ _ _ _ _ _
      | exact LeO.none _
      | refine LeO.ite ?_ ?_
      | refine LeO.bind ?_ (fun _ => ?_)
theorem relictref03_Nodes.mono : ∀ a0 a1 a2 a3 a4 a5 k, LeO (relictref03_Nodes.f k a0 a1 a2 a3 a4 a5) (relictref03_Nodes.f (k + 1) a0 a1 a2 a3 a4 a5) := by
  intro a0 a1 a2 a3 a4 a5 k
  obtain ⟨ih0, ih1⟩ := relictref03_Nodes.mono_l k
  exact ih0 a0 a1 a2 a3 a4 a5
set_option maxHeartbeats 8000000 in
set_option maxRecDepth 100000 in
theorem relictref03_Nodes.calls (k : Nat) : ∀ (a0_0 : Int) (a0_1 : Bool) (A0_2 : Option Addr) (c0_2 : Nat) (l0_2 : List Int) (a0_3 : ByteArray) (a0_4 : Int) (A0_5 : Option Addr) (c0_5 : Nat) (l0_5 : List (S43)) (r : Int) (w : World) (hr0_2 : Kd.C (Kd.int .u32) w A0_2 l0_2.length l0_2) (hc0_2 : l0_2.length ≤ c0_2) (hr0_5 : Kd.C k43 w A0_5 l0_5.length l0_5) (hc0_5 : l0_5.length ≤ c0_5) (h : relictref03_Nodes.f k a0_0 a0_1 l0_2 a0_3 a0_4 l0_5 = some r),
    Calls Try.prog 54 #[.agg #[.int .i64 a0_0, .bool a0_1, .slice A0_2 l0_2.length c0_2, .string a0_3, .int .i64 a0_4, .slice A0_5 l0_5.length c0_5]] w fun e w' => e = .returned (.int .i64 r) ∧ Below w.heap.size w w' := by
  induction k using Nat.strongRecOn with
  | _ k ih =>
  intro a0_0 a0_1 A0_2 c0_2 l0_2 a0_3 a0_4 A0_5 c0_5 l0_5 r w hr0_2 hc0_2 hr0_5 hc0_5 h
  cases k with
  | zero => exact absurd h (by simp [relictref03_Nodes.f])
  | succ k =>
  simp only [relictref03_Nodes.f] at h
  have hu43 := Try.underlying43
  have HR0_2 := Aside0.mk hr0_2
  have HC0_2 := Aside0.mk hc0_2
  clear hr0_2 hc0_2
  have HR0_5 := Aside0.mk hr0_5
  have HC0_5 := Aside0.mk hc0_5
  clear hr0_5 hc0_5
  have HB := Aside0.mk (Below.refl w.heap.size w)
  have H : (relictref03_Nodes.l0 k 1 0 a0_0 a0_1 l0_2 a0_3 a0_4 l0_5) = some r := h
  clear h
  have H' := Aside0.mk H
  clear H
  go_enter Try.func54, Try.ntmps54
  go_wp2_with (first | ((with_reducible refine gate_dst (N := 1) rfl ?_); refine box_event ?hg (N := 1) ?hd (cs := #[.int .i64 a0_0, .bool a0_1, .slice A0_2 l0_2.length c0_2, .string a0_3, .int .i64 a0_4, .slice A0_5 l0_5.length c0_5]) (t := 43) ?hr ?_; (case hd => rfl); (case hg => rfl); (case hr => first | (go_simp; done) | (go_simp; rfl)); intro gb190 hg w2 hbox hb; have n0_ := Aside0.mk (below_step (by repeat (first | (with_reducible first | exact HB.out | apply below_alloc | apply pw_below_drewN | apply below_drew1) | exact HB.out)) hb); have n1_ := Aside0.mk (hbox); have n2_ := Aside0.mk ((by rw [hg]; exact (below_size (by repeat (first | (with_reducible first | exact HB.out | apply below_alloc | apply pw_below_drewN | apply below_drew1) | exact HB.out))) : w.heap.size ≤ gb190)); have n3_ := Aside0.mk ((by rw [hg]; exact (below_size (by repeat (first | (with_reducible first | exact HB.out | apply below_alloc | apply pw_below_drewN | apply below_drew1) | exact HB.out))) : w.heap.size ≤ gb190)); clear HB; have HB := n0_; have BK190 := n1_; have GW190 := n2_; have GE190 := n3_; clear n0_ n1_ n2_ n3_; clear hb hbox hg))
  go_loopg [3, 4] k (fun kq v3 v4 w' => ∃ (x3_1 : Int) (x4_1 : Int), v3 = .int .i64 x3_1 ∧ v4 = .int .i64 x4_1 ∧ Aside0 (relictref03_Nodes.l0 kq x3_1 x4_1 a0_0 a0_1 l0_2 a0_3 a0_4 l0_5 = some r) ∧ Aside0 (kq ≤ k) ∧ Aside0 (w'.heap[gb190]? = some (.cells #[.int .i64 a0_0, .bool a0_1, (.slice A0_2 l0_2.length c0_2), .string a0_3, .int .i64 a0_4, (.slice A0_5 l0_5.length c0_5)] 43 (0, 0))) ∧ Aside0 (Below w.heap.size w w'))
  case atStart => exact ⟨(1), (0), (by first | rfl | (simp; done) | (simp [*]; done)), (by first | rfl | (simp; done) | (simp [*]; done)), H', ⟨Nat.le_refl _⟩, ⟨by (with_reducible repeat (first | refine blk_drewN ?_ _ | refine blk_drew ?_ | refine blk_alloc ?_ _)); exact BK190.out⟩, ⟨by repeat (first | (with_reducible first | exact HB.out | apply below_alloc | apply pw_below_drewN | apply below_drew1 | refine below_set ?_ GE190.out) | exact HB.out)⟩⟩
  case round =>
    clear H'
    try clear p2
    obtain ⟨x3_1, x4_1, rfl, rfl, HA, HK1, BK190, HB⟩ := hrel
    cases gk with
    | zero => exact absurd HA.out (by simp [relictref03_Nodes.l0])
    | succ k1 =>
      have H := HA.out
      clear HA
      simp only [relictref03_Nodes.l0] at H
      by_cases c3 : x4_1 < (l0_5.length : Int)
      · rw [if_pos c3] at H
        have c3b0 : decide (x4_1 < (l0_5.length : Int)) = true := decide_eq_true c3
        clear c3
        by_cases c4 : 0 ≤ x4_1
        · rw [if_pos c4] at H
          have c4b0 : decide (0 ≤ x4_1) = true := decide_eq_true c4
          clear c4
          replace H := Option.bind_eq_some_iff.mp H
          obtain ⟨t192, A50, H⟩ := H
          replace H : (relictref03_Nodes.l0 k1 (wrap64 (x3_1 + t192)) (wrap64 (x4_1 + 1)) a0_0 a0_1 l0_2 a0_3 a0_4 l0_5) = some r := H
          have A5 := Aside0.mk A50
          clear A50
          have H' := Aside0.mk H
          clear H
          have hcz6_0 : wr.cell? ⟨gb190, 0, none⟩ = some (.int .i64 a0_0) := (blk_cell BK190.out 0).trans rfl
          have hcz6_1 : wr.cell? ⟨gb190, 1, none⟩ = some (.bool a0_1) := (blk_cell BK190.out 1).trans rfl
          have hcz6_2 : wr.cell? ⟨gb190, 2, none⟩ = some (.slice A0_2 l0_2.length c0_2) := (blk_cell BK190.out 2).trans rfl
          have hcz6_3 : wr.cell? ⟨gb190, 3, none⟩ = some (.string a0_3) := (blk_cell BK190.out 3).trans rfl
          have hcz6_4 : wr.cell? ⟨gb190, 4, none⟩ = some (.int .i64 a0_4) := (blk_cell BK190.out 4).trans rfl
          have hcz6_5 : wr.cell? ⟨gb190, 5, none⟩ = some (.slice A0_5 l0_5.length c0_5) := (blk_cell BK190.out 5).trans rfl
          have hfz6_0 := blk_frozen BK190.out 0
          have hfz6_1 := blk_frozen BK190.out 1
          have hfz6_2 := blk_frozen BK190.out 2
          have hfz6_3 := blk_frozen BK190.out 3
          have hfz6_4 := blk_frozen BK190.out 4
          have hfz6_5 := blk_frozen BK190.out 5
          have p191 : 0 ≤ (x4_1 : Int) := of_decide_eq_true (by first | (with_reducible assumption) | assumption)
          have q191 : x4_1 < (l0_5.length : Int) := of_decide_eq_true (by first | (with_reducible assumption) | assumption)
          obtain ⟨ad191, A191_2, c191_2, A191_5, c191_5, e191, hx191_0, hx191_1, hx191_2, hx191_3, hx191_4, hx191_5, hl191_2, hi191_2, hl191_5, hi191_5⟩ := at_T43 HR0_5.out x4_1 p191 q191
          cases e191
          replace hx191_0 := (HB.out.cell (World.block_lt_of_cell? w _ hx191_0)).trans hx191_0
          replace hx191_1 := (HB.out.cell (World.block_lt_of_cell? w _ hx191_1)).trans hx191_1
          replace hx191_2 := (HB.out.cell (World.block_lt_of_cell? w _ hx191_2)).trans hx191_2
          replace hx191_3 := (HB.out.cell (World.block_lt_of_cell? w _ hx191_3)).trans hx191_3
          replace hx191_4 := (HB.out.cell (World.block_lt_of_cell? w _ hx191_4)).trans hx191_4
          replace hx191_5 := (HB.out.cell (World.block_lt_of_cell? w _ hx191_5)).trans hx191_5
          have HR191_2 := Aside0.mk hi191_2
          have HC191_2 := Aside0.mk hl191_2
          clear hi191_2 hl191_2
          have HR191_5 := Aside0.mk hi191_5
          have HC191_5 := Aside0.mk hl191_5
          clear hi191_5 hl191_5
          replace p191 := eq_true p191
          replace q191 := eq_true q191
          go_wp2_with (first | ((with_reducible refine gate_callee (f := 54) rfl ?_); refine goesL_ (some 18) rfl rfl Try.func54 (by kernel_rfl) rfl #[.agg #[.int .i64 ((rd_T43 l0_5 x4_1).f0), .bool ((rd_T43 l0_5 x4_1).f1.f0), .slice A191_2 ((rd_T43 l0_5 x4_1).f1.f1).length c191_2, .string ((rd_T43 l0_5 x4_1).f2), .int .i64 ((rd_T43 l0_5 x4_1).f3), .slice A191_5 ((rd_T43 l0_5 x4_1).f4).length c191_5]] rfl (by (try simp only [List.map_toArray, List.map_cons, List.map_nil]); first | done | rfl | (simp only [List.length_drop, List.length_take]; rfl)) ?_; (with_reducible refine (ih k1 (by have := HK1.out; omega) ((rd_T43 l0_5 x4_1).f0) ((rd_T43 l0_5 x4_1).f1.f0) _ _ ((rd_T43 l0_5 x4_1).f1.f1) ((rd_T43 l0_5 x4_1).f2) ((rd_T43 l0_5 x4_1).f3) _ _ ((rd_T43 l0_5 x4_1).f4) t192 _ ?side1 ?side2 ?side3 ?side4 A5.out).mono ?_); (case side1 => repeat (first | exact (Kd.C_below HR191_2.out HB.out) | (with_reducible refine Kd.C_alloc ?_ _) | (with_reducible refine Kd.C_drewN ?_ _) | (with_reducible refine Kd.C_drew ?_))); (case side2 => exact HC191_2.out); (case side3 => repeat (first | exact (Kd.C_below HR191_5.out HB.out) | (with_reducible refine Kd.C_alloc ?_ _) | (with_reducible refine Kd.C_drewN ?_ _) | (with_reducible refine Kd.C_drew ?_))); (case side4 => exact HC191_5.out); rintro e w7 ⟨rfl, hb⟩; refine ⟨_, rfl, ?_⟩; have n0_ := Aside0.mk (blk_below (g := gb190) (o := .cells #[.int .i64 a0_0, .bool a0_1, .slice A0_2 l0_2.length c0_2, .string a0_3, .int .i64 a0_4, .slice (some ad191) l0_5.length c0_5] 43 (0, 0)) (by (with_reducible repeat (first | refine blk_drewN ?_ _ | refine blk_drew ?_ | refine blk_alloc ?_ _)); exact BK190.out) hb); have n1_ := Aside0.mk (below_step (by repeat (first | (with_reducible first | exact HB.out | apply below_alloc | apply pw_below_drewN | apply below_drew1 | refine below_set ?_ GE190.out) | exact HB.out)) hb); clear BK190; clear HB; have BK190 := n0_; have HB := n1_; clear n0_ n1_; (try clear hb); (try clear hb2); (try clear hk); (try clear hi)))
          go_roundg k1
          case measure => have := HK1.out; omega
          case rel => exact ⟨(wrap64 (x3_1 + t192)), (wrap64 (x4_1 + 1)), (by first | rfl | (simp; done) | (simp [*]; done)), (by first | rfl | (simp; done) | (simp [*]; done)), H', ⟨by have := HK1.out; omega⟩, ⟨by (with_reducible repeat (first | refine blk_drewN ?_ _ | refine blk_drew ?_ | refine blk_alloc ?_ _)); exact BK190.out⟩, ⟨by repeat (first | (with_reducible first | exact HB.out | apply below_alloc | apply pw_below_drewN | apply below_drew1 | refine below_set ?_ GE190.out) | exact HB.out)⟩⟩
        · rw [if_neg c4] at H
          exact absurd H (by simp)
      · rw [if_neg c3] at H
        have c3b0 : decide (x4_1 < (l0_5.length : Int)) = false := decide_eq_false c3
        clear c3
        obtain rfl := Option.some.inj H
        have hcz8_0 : wr.cell? ⟨gb190, 0, none⟩ = some (.int .i64 a0_0) := (blk_cell BK190.out 0).trans rfl
        have hcz8_1 : wr.cell? ⟨gb190, 1, none⟩ = some (.bool a0_1) := (blk_cell BK190.out 1).trans rfl
        have hcz8_2 : wr.cell? ⟨gb190, 2, none⟩ = some (.slice A0_2 l0_2.length c0_2) := (blk_cell BK190.out 2).trans rfl
        have hcz8_3 : wr.cell? ⟨gb190, 3, none⟩ = some (.string a0_3) := (blk_cell BK190.out 3).trans rfl
        have hcz8_4 : wr.cell? ⟨gb190, 4, none⟩ = some (.int .i64 a0_4) := (blk_cell BK190.out 4).trans rfl
        have hcz8_5 : wr.cell? ⟨gb190, 5, none⟩ = some (.slice A0_5 l0_5.length c0_5) := (blk_cell BK190.out 5).trans rfl
        have hfz8_0 := blk_frozen BK190.out 0
        have hfz8_1 := blk_frozen BK190.out 1
        have hfz8_2 := blk_frozen BK190.out 2
        have hfz8_3 := blk_frozen BK190.out 3
        have hfz8_4 := blk_frozen BK190.out 4
        have hfz8_5 := blk_frozen BK190.out 5
        go_wp2
        go_ret
        exact ⟨by first | rfl | (simp [errW_none, errW_some] <;> rfl) | (simp [*, errW_none, errW_some] <;> rfl), by repeat (first | (with_reducible first | exact HB.out | apply below_alloc | apply pw_below_drewN | apply below_drew1 | refine below_set ?_ GE190.out) | exact HB.out)⟩

end Go.Proofs.Ytlifdpfhepamfaa.PHe
