-- Printed by the kit's print.py from a list of bodies that this session turned in four places; parts of it are this session's own.
import Derived.Test.YthdmacdeefohkaaPMa0
import Derived.Test.YthdmacdeefohkaaPMa7
import Derived.Test.YthdmacdeefohkaaPMa8
namespace Go.Proofs.Ythdmacdeefohkaa.PMa
open Go.RowKit Go.Proofs.YthdmacdeefohkaaW.PrintWords Go.Proofs.YthdmacdeefohkaaW.PrintLast Go.Proofs.YthdmacdeefohkaaW.PrintMore
attribute [local go_sem] max2_int min2_int max_two min_two max_three min_three max_four min_four   -- for this text's walks alone
set_option linter.unusedVariables false
set_option linter.unusedSimpArgs false

/-! ### relictref20_Bytes: function 43 -/
def relictref20_Bytes.j0 : Nat → Int → Bool → Int → Bool → List Int → ByteArray → Int → List (S45) → Option (Int × Bool × List Int × ByteArray × Int × (List (S45)) × Int × Bool × List Int × ByteArray × Int × (List (S45)) × Bool)
  | 0, _, _, _, _, _, _, _, _ => none
  | k + 1, x1, x18, x459000, x459001, x459002, x459003, x459004, x459005 => if x18 = true then (some (0, false, ([] : List Int), (⟨#[]⟩ : ByteArray), 0, ([] : List (S45)), 0, false, ([] : List Int), (⟨#[]⟩ : ByteArray), 0, ([] : List (S45)), false)) else ((relictref20_at.f x459000 x459001 x459002 x459003 x459004 x459005).bind fun t462 => ((relictref20_at.f x459000 x459001 x459002 x459003 x459004 x459005).bind fun t463 => (if 0 ≤ t462 then (if t462 ≤ (wrap64 (t463 + x1)) then (if (wrap64 (t463 + x1)) ≤ (x459003.size : Int) then ((relictref20_behind.f x459000 x459001 x459002 x459003 x459004 x459005 x1).bind fun bt464 => (some (6, false, ([] : List Int), x459003.extract (t462 : Int).toNat ((wrap64 (t463 + x1)) : Int).toNat, 0, ([] : List (S45)), bt464.1, bt464.2.1, bt464.2.2.1, bt464.2.2.2.1, bt464.2.2.2.2.1, bt464.2.2.2.2.2, true))) else (none)) else (none)) else (none))))
def relictref20_Bytes.f (k : Nat) (a0_0 : Int) (a0_1 : Bool) (l0_2 : List Int) (a0_3 : ByteArray) (a0_4 : Int) (l0_5 : List (S45)) (a1 : Int) : Option (Int × Bool × List Int × ByteArray × Int × (List (S45)) × Int × Bool × List Int × ByteArray × Int × (List (S45)) × Bool) := if a1 < 0 then (relictref20_Bytes.j0 k a1 true a0_0 a0_1 l0_2 a0_3 a0_4 l0_5) else (if a1 > 400 then (relictref20_Bytes.j0 k a1 true a0_0 a0_1 l0_2 a0_3 a0_4 l0_5) else ((relictref20_Left.f a0_0 a0_1 l0_2 a0_3 a0_4 l0_5).bind fun t461 => (relictref20_Bytes.j0 k a1 (decide (t461 < a1)) a0_0 a0_1 l0_2 a0_3 a0_4 l0_5)))
theorem relictref20_Bytes.mono_l : ∀ k, (∀ y0 y1 y2 y3 y4 y5 y6 y7, LeO (relictref20_Bytes.j0 k y0 y1 y2 y3 y4 y5 y6 y7) (relictref20_Bytes.j0 (k + 1) y0 y1 y2 y3 y4 y5 y6 y7))
  | 0 => fun _ _ _ _ _ _ _ _ r h => by simp [relictref20_Bytes.j0] at h
  | k + 1 => by
    have ih0 := relictref20_Bytes.mono_l k
    · intro y0 y1 y2 y3 y4 y5 y6 y7
      unfold relictref20_Bytes.j0
      repeat' first
      | (with_reducible exact ih0 _ _ _ _ _ _ _ _)
      | (with_reducible exact LeO.refl _)
      | (with_reducible exact LeO.none _)
      | (with_reducible refine LeO.ite ?_ ?_)
      | (with_reducible refine LeO.bind ?_ (fun _ => ?_))
      | exact ih0 _ _ _ _ _ _ _ _
      | exact LeO.none _
      | refine LeO.ite ?_ ?_
      | refine LeO.bind ?_ (fun _ => ?_)
theorem relictref20_Bytes.mono : ∀ a0 a1 a2 a3 a4 a5 a6 k, LeO (relictref20_Bytes.f k a0 a1 a2 a3 a4 a5 a6) (relictref20_Bytes.f (k + 1) a0 a1 a2 a3 a4 a5 a6) := by
  intro a0 a1 a2 a3 a4 a5 a6 k
  have ih0 := relictref20_Bytes.mono_l k
  unfold relictref20_Bytes.f
  repeat' first
      | (with_reducible exact ih0 _ _ _ _ _ _ _ _)
      | (with_reducible exact LeO.refl _)
      | (with_reducible exact LeO.none _)
      | (with_reducible refine LeO.ite ?_ ?_)
      | (with_reducible refine LeO.bind ?_ (fun _ => ?_))
      | exact ih0 _ _ _ _ _ _ _ _
      | exact LeO.none _
      | refine LeO.ite ?_ ?_
      | refine LeO.bind ?_ (fun _ => ?_)
def relictref20_Bytes.T3 : Bool × List (List Nat × List Nat) := (true, [([], []), ([0], [0]), ([], []), ([2], [2]), ([], []), ([4, 3], [4]), ([], []), ([5, 6], [5, 6]), ([1, 3, 7], [1, 3, 7]), ([8], [8]), ([], []), ([], []), ([10, 11, 5], [10, 11]), ([9, 12, 0, 1, 2, 3, 4, 5, 6, 7, 8, 9], [9]), ([12, 13, 0, 1, 2, 3, 4, 5, 6, 7, 8, 9, 10, 11, 12, 13], [12]), ([14, 0, 1, 2, 3, 4, 5, 6, 7, 8, 9, 10, 11, 12, 13, 14], [])])
def relictref20_Bytes.B3 : List Nat := [0, 1, 0, 4, 0, 28, 0, 124, 255, 511, 0, 0, 3132, 8191, 16383, 32767]
theorem relictref20_Bytes.tab3 : rtab .any (opsOf Try.f43 3) = relictref20_Bytes.T3 := by kernel_rfl
theorem relictref20_Bytes.bits3 : waitsOk relictref20_Bytes.T3.2 relictref20_Bytes.B3 = true := by kernel_rfl
set_option maxHeartbeats 8000000 in
set_option maxRecDepth 100000 in
theorem relictref20_Bytes.calls (k : Nat) (a0_0 : Int) (a0_1 : Bool) (A0_2 : Option Addr) (c0_2 : Nat) (l0_2 : List Int) (a0_3 : ByteArray) (a0_4 : Int) (A0_5 : Option Addr) (c0_5 : Nat) (l0_5 : List (S45)) (a1 : Int) (r1 : Int) (r2 : Bool) (r3 : List Int) (r4 : ByteArray) (r5 : Int) (r6 : List (S45)) (r7 : Int) (r8 : Bool) (r9 : List Int) (r10 : ByteArray) (r11 : Int) (r12 : List (S45)) (r13 : Bool) (w : World) (hr0_2 : Kd.C (Kd.int .u32) w A0_2 l0_2.length l0_2) (hc0_2 : l0_2.length ≤ c0_2) (hr0_5 : Kd.C k45 w A0_5 l0_5.length l0_5) (hc0_5 : l0_5.length ≤ c0_5) (h : relictref20_Bytes.f k a0_0 a0_1 l0_2 a0_3 a0_4 l0_5 a1 = some (r1, r2, r3, r4, r5, r6, r7, r8, r9, r10, r11, r12, r13)) :
    Calls Try.prog 43 #[.agg #[.int .i64 a0_0, .bool a0_1, .slice A0_2 l0_2.length c0_2, .string a0_3, .int .i64 a0_4, .slice A0_5 l0_5.length c0_5], .int .i64 a1] w fun e w' => ∃ v2_ v5_ v8_ v11_ : Value, e = .returned (.tuple #[.agg #[.int .i64 r1, .bool r2, v2_, .string r4, .int .i64 r5, v5_], .agg #[.int .i64 r7, .bool r8, v8_, .string r10, .int .i64 r11, v11_], .bool r13]) ∧ Kd.R (Kd.int .u32) 123 w' w.heap.size (fun k_ => some k_ ≠ (v8_ : Value).ownBlock) v2_ r3 ∧ Kd.R k45 45 w' w.heap.size (fun k_ => some k_ ≠ (v2_ : Value).ownBlock ∧ some k_ ≠ (v8_ : Value).ownBlock ∧ some k_ ≠ (v11_ : Value).ownBlock) v5_ r6 ∧ Kd.R (Kd.int .u32) 123 w' w.heap.size (fun k_ => some k_ ≠ (v2_ : Value).ownBlock) v8_ r9 ∧ Kd.R k45 45 w' w.heap.size (fun k_ => some k_ ≠ (v2_ : Value).ownBlock ∧ some k_ ≠ (v5_ : Value).ownBlock ∧ some k_ ≠ (v8_ : Value).ownBlock) v11_ r12 ∧ Below w.heap.size w w' := by
  have hu45 := Try.underlying45
  have HR0_2 := Aside0.mk hr0_2
  have HC0_2 := Aside0.mk hc0_2
  clear hr0_2 hc0_2
  have HR0_5 := Aside0.mk hr0_5
  have HC0_5 := Aside0.mk hc0_5
  clear hr0_5 hc0_5
  have HB := Aside0.mk (Below.refl w.heap.size w)
  have H : (if a1 < 0 then (relictref20_Bytes.j0 k a1 true a0_0 a0_1 l0_2 a0_3 a0_4 l0_5) else (if a1 > 400 then (relictref20_Bytes.j0 k a1 true a0_0 a0_1 l0_2 a0_3 a0_4 l0_5) else ((relictref20_Left.f a0_0 a0_1 l0_2 a0_3 a0_4 l0_5).bind fun t461 => (relictref20_Bytes.j0 k a1 (decide (t461 < a1)) a0_0 a0_1 l0_2 a0_3 a0_4 l0_5)))) = some (r1, r2, r3, r4, r5, r6, r7, r8, r9, r10, r11, r12, r13) := h
  clear h
  have HC3 := Aside0.mk H
  clear H
  go_enter Try.func43, Try.ntmps43
  go_upto_region 1 with (first | ((with_reducible refine gate_dst (N := 2) rfl ?_); refine box_event ?hg (N := 2) ?hd (cs := #[.int .i64 a0_0, .bool a0_1, .slice A0_2 l0_2.length c0_2, .string a0_3, .int .i64 a0_4, .slice A0_5 l0_5.length c0_5]) (t := 45) ?hr ?_; (case hd => rfl); (case hg => rfl); (case hr => first | (go_simp; done) | (go_simp; rfl)); intro gb458 hg w4 hbox hb; have n0_ := Aside0.mk (below_step (by repeat (first | (with_reducible first | exact HB.out | apply below_alloc | apply pw_below_drewN | apply below_drew1) | exact HB.out)) hb); have n1_ := Aside0.mk (hbox); have n2_ := Aside0.mk ((by rw [hg]; exact (below_size (by repeat (first | (with_reducible first | exact HB.out | apply below_alloc | apply pw_below_drewN | apply below_drew1) | exact HB.out))) : w.heap.size ≤ gb458)); have n3_ := Aside0.mk ((by rw [hg]; exact (below_size (by repeat (first | (with_reducible first | exact HB.out | apply below_alloc | apply pw_below_drewN | apply below_drew1) | exact HB.out))) : w.heap.size ≤ gb458)); clear HB; have HB := n0_; have BK458 := n1_; have GW458 := n2_; have GE458 := n3_; clear n0_ n1_ n2_ n3_; clear hb hbox hg) | ((with_reducible refine gate_dst (N := 4) rfl ?_); refine box_event ?hg (N := 4) ?hd (cs := #[.int .i64 0, .bool false, .slice none 0 0, .string (⟨#[]⟩ : ByteArray), .int .i64 0, .slice none 0 0]) (t := 45) ?hr ?_; (case hd => rfl); (case hg => rfl); (case hr => first | (go_simp; done) | (go_simp; rfl)); intro gb459 hg w5 hbox hb; have n0_ := Aside0.mk (blk_below (g := gb458) (o := .cells #[.int .i64 a0_0, .bool a0_1, .slice A0_2 l0_2.length c0_2, .string a0_3, .int .i64 a0_4, .slice A0_5 l0_5.length c0_5] 45 (0, 0)) (by (with_reducible repeat (first | refine blk_drewN ?_ _ | refine blk_drew ?_ | refine blk_alloc ?_ _)); exact BK458.out) hb); have n1_ := Aside0.mk (below_step (by repeat (first | (with_reducible first | exact HB.out | apply below_alloc | apply pw_below_drewN | apply below_drew1 | refine below_set ?_ GE458.out) | exact HB.out)) hb); have n2_ := Aside0.mk (hbox); have n3_ := Aside0.mk ((by rw [hg]; exact (below_size (by repeat (first | (with_reducible first | exact HB.out | apply below_alloc | apply pw_below_drewN | apply below_drew1 | refine below_set ?_ GE458.out) | exact HB.out))) : w.heap.size ≤ gb459)); have n4_ := Aside0.mk ((by rw [hg]; exact (below_size (by repeat (first | (with_reducible first | exact HB.out | apply below_alloc | apply pw_below_drewN | apply below_drew1 | refine below_set ?_ GE458.out) | exact HB.out))) : w.heap.size ≤ gb459)); have n5_ := Aside0.mk ((by rw [hg]; exact Nat.ne_of_lt (blk_lt (g := gb458) (o := .cells #[.int .i64 a0_0, .bool a0_1, .slice A0_2 l0_2.length c0_2, .string a0_3, .int .i64 a0_4, .slice A0_5 l0_5.length c0_5] 45 (0, 0)) (by (with_reducible repeat (first | refine blk_drewN ?_ _ | refine blk_drew ?_ | refine blk_alloc ?_ _)); exact BK458.out)) : gb458 ≠ gb459)); have n6_ := Aside0.mk ((by rw [hg]; exact Nat.ne_of_gt (blk_lt (g := gb458) (o := .cells #[.int .i64 a0_0, .bool a0_1, .slice A0_2 l0_2.length c0_2, .string a0_3, .int .i64 a0_4, .slice A0_5 l0_5.length c0_5] 45 (0, 0)) (by (with_reducible repeat (first | refine blk_drewN ?_ _ | refine blk_drew ?_ | refine blk_alloc ?_ _)); exact BK458.out)) : gb459 ≠ gb458)); clear BK458; clear HB; have BK458 := n0_; have HB := n1_; have BK459 := n2_; have GW459 := n3_; have GE459 := n4_; have NB458_459 := n5_; have NB459_458 := n6_; clear n0_ n1_ n2_ n3_ n4_ n5_ n6_; clear hb hbox hg) | ((with_reducible refine gate_dst (N := 5) rfl ?_); refine box_event ?hg (N := 5) ?hd (cs := #[.int .i64 0, .bool false, .slice none 0 0, .string (⟨#[]⟩ : ByteArray), .int .i64 0, .slice none 0 0]) (t := 45) ?hr ?_; (case hd => rfl); (case hg => rfl); (case hr => first | (go_simp; done) | (go_simp; rfl)); intro gb460 hg w6 hbox hb; have n0_ := Aside0.mk (blk_below (g := gb458) (o := .cells #[.int .i64 a0_0, .bool a0_1, .slice A0_2 l0_2.length c0_2, .string a0_3, .int .i64 a0_4, .slice A0_5 l0_5.length c0_5] 45 (0, 0)) (by (with_reducible repeat (first | refine blk_drewN ?_ _ | refine blk_drew ?_ | refine blk_alloc ?_ _)); exact BK458.out) hb); have n1_ := Aside0.mk (blk_below (g := gb459) (o := .cells #[.int .i64 0, .bool false, .slice none 0 0, .string (⟨#[]⟩ : ByteArray), .int .i64 0, .slice none 0 0] 45 (0, 0)) (by (with_reducible repeat (first | refine blk_drewN ?_ _ | refine blk_drew ?_ | refine blk_alloc ?_ _)); exact BK459.out) hb); have n2_ := Aside0.mk (below_step (by repeat (first | (with_reducible first | exact HB.out | apply below_alloc | apply pw_below_drewN | apply below_drew1 | refine below_set ?_ GE458.out | refine below_set ?_ GE459.out) | exact HB.out)) hb); have n3_ := Aside0.mk (hbox); have n4_ := Aside0.mk ((by rw [hg]; exact (below_size (by repeat (first | (with_reducible first | exact HB.out | apply below_alloc | apply pw_below_drewN | apply below_drew1 | refine below_set ?_ GE458.out | refine below_set ?_ GE459.out) | exact HB.out))) : w.heap.size ≤ gb460)); have n5_ := Aside0.mk ((by rw [hg]; exact (below_size (by repeat (first | (with_reducible first | exact HB.out | apply below_alloc | apply pw_below_drewN | apply below_drew1 | refine below_set ?_ GE458.out | refine below_set ?_ GE459.out) | exact HB.out))) : w.heap.size ≤ gb460)); have n6_ := Aside0.mk ((by rw [hg]; exact Nat.ne_of_lt (blk_lt (g := gb458) (o := .cells #[.int .i64 a0_0, .bool a0_1, .slice A0_2 l0_2.length c0_2, .string a0_3, .int .i64 a0_4, .slice A0_5 l0_5.length c0_5] 45 (0, 0)) (by (with_reducible repeat (first | refine blk_drewN ?_ _ | refine blk_drew ?_ | refine blk_alloc ?_ _)); exact BK458.out)) : gb458 ≠ gb460)); have n7_ := Aside0.mk ((by rw [hg]; exact Nat.ne_of_gt (blk_lt (g := gb458) (o := .cells #[.int .i64 a0_0, .bool a0_1, .slice A0_2 l0_2.length c0_2, .string a0_3, .int .i64 a0_4, .slice A0_5 l0_5.length c0_5] 45 (0, 0)) (by (with_reducible repeat (first | refine blk_drewN ?_ _ | refine blk_drew ?_ | refine blk_alloc ?_ _)); exact BK458.out)) : gb460 ≠ gb458)); have n8_ := Aside0.mk ((by rw [hg]; exact Nat.ne_of_lt (blk_lt (g := gb459) (o := .cells #[.int .i64 0, .bool false, .slice none 0 0, .string (⟨#[]⟩ : ByteArray), .int .i64 0, .slice none 0 0] 45 (0, 0)) (by (with_reducible repeat (first | refine blk_drewN ?_ _ | refine blk_drew ?_ | refine blk_alloc ?_ _)); exact BK459.out)) : gb459 ≠ gb460)); have n9_ := Aside0.mk ((by rw [hg]; exact Nat.ne_of_gt (blk_lt (g := gb459) (o := .cells #[.int .i64 0, .bool false, .slice none 0 0, .string (⟨#[]⟩ : ByteArray), .int .i64 0, .slice none 0 0] 45 (0, 0)) (by (with_reducible repeat (first | refine blk_drewN ?_ _ | refine blk_drew ?_ | refine blk_alloc ?_ _)); exact BK459.out)) : gb460 ≠ gb459)); clear BK458; clear BK459; clear HB; have BK458 := n0_; have BK459 := n1_; have HB := n2_; have BK460 := n3_; have GW460 := n4_; have GE460 := n5_; have NB458_460 := n6_; have NB460_458 := n7_; have NB459_460 := n8_; have NB460_459 := n9_; clear n0_ n1_ n2_ n3_ n4_ n5_ n6_ n7_ n8_ n9_; clear hb hbox hg))
  (try simp only [Act.put, List.setIfInBounds_toArray, List.set_cons_zero, List.set_cons_succ])
  go_cut [18] (fun v18 wc => ∃ (kq : Nat) (x18_2 : Bool), v18 = .bool x18_2 ∧ Aside0 (relictref20_Bytes.j0 kq a1 x18_2 a0_0 a0_1 l0_2 a0_3 a0_4 l0_5 = some (r1, r2, r3, r4, r5, r6, r7, r8, r9, r10, r11, r12, r13)) ∧ Aside0 (kq ≤ k) ∧ Aside0 (wc.heap[gb458]? = some (.cells #[.int .i64 a0_0, .bool a0_1, (.slice A0_2 l0_2.length c0_2), .string a0_3, .int .i64 a0_4, (.slice A0_5 l0_5.length c0_5)] 45 (0, 0))) ∧ Aside0 (wc.heap[gb459]? = some (.cells #[.int .i64 0, .bool false, (.slice none 0 0), .string (⟨#[]⟩ : ByteArray), .int .i64 0, (.slice none 0 0)] 45 (0, 0))) ∧ Aside0 (wc.heap[gb460]? = some (.cells #[.int .i64 0, .bool false, (.slice none 0 0), .string (⟨#[]⟩ : ByteArray), .int .i64 0, (.slice none 0 0)] 45 (0, 0))) ∧ Aside0 (Below w.heap.size w wc))
  case first =>
    have H := HC3.out
    clear HC3
    by_cases c7 : a1 < 0
    · rw [if_pos c7] at H
      have c7b0 : decide (a1 < 0) = true := decide_eq_true c7
      clear c7
      (first | rw [c7b0] | (simp only [i64_w, i32_w]; rw [c7b0]) | skip)
      have H' := Aside0.mk H
      clear H
      go_wp2
      go_meet
      case rel => exact ⟨_, (true), (by first | rfl | (simp; done) | (simp [*]; done)), H', ⟨by first | omega | exact Nat.le_refl _⟩, ⟨by (with_reducible repeat (first | refine blk_drewN ?_ _ | refine blk_drew ?_ | refine blk_alloc ?_ _)); exact BK458.out⟩, ⟨by (with_reducible repeat (first | refine blk_drewN ?_ _ | refine blk_drew ?_ | refine blk_alloc ?_ _)); exact BK459.out⟩, ⟨by (with_reducible repeat (first | refine blk_drewN ?_ _ | refine blk_drew ?_ | refine blk_alloc ?_ _)); exact BK460.out⟩, ⟨by repeat (first | (with_reducible first | exact HB.out | apply below_alloc | apply pw_below_drewN | apply below_drew1 | refine below_set ?_ GE458.out | refine below_set ?_ GE459.out | refine below_set ?_ GE460.out) | exact HB.out)⟩⟩
    · rw [if_neg c7] at H
      have c7b0 : decide (a1 < 0) = false := decide_eq_false c7
      clear c7
      (first | rw [c7b0] | (simp only [i64_w, i32_w]; rw [c7b0]) | skip)
      by_cases c8 : a1 > 400
      · rw [if_pos c8] at H
        have c8b0 : decide (400 < a1) = true := decide_eq_true c8
        clear c8
        have H' := Aside0.mk H
        clear H
        go_wp2
        go_meet
        case rel => exact ⟨_, (true), (by first | rfl | (simp; done) | (simp [*]; done)), H', ⟨by first | omega | exact Nat.le_refl _⟩, ⟨by (with_reducible repeat (first | refine blk_drewN ?_ _ | refine blk_drew ?_ | refine blk_alloc ?_ _)); exact BK458.out⟩, ⟨by (with_reducible repeat (first | refine blk_drewN ?_ _ | refine blk_drew ?_ | refine blk_alloc ?_ _)); exact BK459.out⟩, ⟨by (with_reducible repeat (first | refine blk_drewN ?_ _ | refine blk_drew ?_ | refine blk_alloc ?_ _)); exact BK460.out⟩, ⟨by repeat (first | (with_reducible first | exact HB.out | apply below_alloc | apply pw_below_drewN | apply below_drew1 | refine below_set ?_ GE458.out | refine below_set ?_ GE459.out | refine below_set ?_ GE460.out) | exact HB.out)⟩⟩
      · rw [if_neg c8] at H
        have c8b0 : decide (400 < a1) = false := decide_eq_false c8
        clear c8
        replace H := Option.bind_eq_some_iff.mp H
        obtain ⟨t461, A90, H⟩ := H
        replace H : (relictref20_Bytes.j0 k a1 (decide (t461 < a1)) a0_0 a0_1 l0_2 a0_3 a0_4 l0_5) = some (r1, r2, r3, r4, r5, r6, r7, r8, r9, r10, r11, r12, r13) := H
        have A9 := Aside0.mk A90
        clear A90
        have H' := Aside0.mk H
        clear H
        have hnb10 := NB458_459.out
        have hnc10 := NB459_458.out
        have hnb11 := NB458_460.out
        have hnc11 := NB460_458.out
        have hcz12_0 : w6.cell? ⟨gb458, 0, none⟩ = some (.int .i64 a0_0) := (blk_cell BK458.out 0).trans rfl
        have hcz12_1 : w6.cell? ⟨gb458, 1, none⟩ = some (.bool a0_1) := (blk_cell BK458.out 1).trans rfl
        have hcz12_2 : w6.cell? ⟨gb458, 2, none⟩ = some (.slice A0_2 l0_2.length c0_2) := (blk_cell BK458.out 2).trans rfl
        have hcz12_3 : w6.cell? ⟨gb458, 3, none⟩ = some (.string a0_3) := (blk_cell BK458.out 3).trans rfl
        have hcz12_4 : w6.cell? ⟨gb458, 4, none⟩ = some (.int .i64 a0_4) := (blk_cell BK458.out 4).trans rfl
        have hcz12_5 : w6.cell? ⟨gb458, 5, none⟩ = some (.slice A0_5 l0_5.length c0_5) := (blk_cell BK458.out 5).trans rfl
        have hfz12_0 := blk_frozen BK458.out 0
        have hfz12_1 := blk_frozen BK458.out 1
        have hfz12_2 := blk_frozen BK458.out 2
        have hfz12_3 := blk_frozen BK458.out 3
        have hfz12_4 := blk_frozen BK458.out 4
        have hfz12_5 := blk_frozen BK458.out 5
        go_wp2_with (first | (go_at_call 44; (with_reducible refine (relictref20_Left.calls a0_0 a0_1 _ _ l0_2 a0_3 a0_4 _ _ l0_5 t461 _ ?side1 ?side2 ?side3 ?side4 A9.out).mono ?_); (case side1 => repeat (first | exact (Kd.C_below HR0_2.out HB.out) | (with_reducible refine Kd.C_alloc ?_ _) | (with_reducible refine Kd.C_drewN ?_ _) | (with_reducible refine Kd.C_drew ?_))); (case side2 => exact HC0_2.out); (case side3 => repeat (first | exact (Kd.C_below HR0_5.out HB.out) | (with_reducible refine Kd.C_alloc ?_ _) | (with_reducible refine Kd.C_drewN ?_ _) | (with_reducible refine Kd.C_drew ?_))); (case side4 => exact HC0_5.out); rintro e w13 ⟨rfl, hb⟩; have n0_ := Aside0.mk (blk_below (g := gb458) (o := .cells #[.int .i64 a0_0, .bool a0_1, .slice A0_2 l0_2.length c0_2, .string a0_3, .int .i64 a0_4, .slice A0_5 l0_5.length c0_5] 45 (0, 0)) (by (with_reducible repeat (first | refine blk_drewN ?_ _ | refine blk_drew ?_ | refine blk_alloc ?_ _)); exact BK458.out) hb); have n1_ := Aside0.mk (blk_below (g := gb459) (o := .cells #[.int .i64 0, .bool false, .slice none 0 0, .string (⟨#[]⟩ : ByteArray), .int .i64 0, .slice none 0 0] 45 (0, 0)) (by (with_reducible repeat (first | refine blk_drewN ?_ _ | refine blk_drew ?_ | refine blk_alloc ?_ _)); exact BK459.out) hb); have n2_ := Aside0.mk (blk_below (g := gb460) (o := .cells #[.int .i64 0, .bool false, .slice none 0 0, .string (⟨#[]⟩ : ByteArray), .int .i64 0, .slice none 0 0] 45 (0, 0)) (by (with_reducible repeat (first | refine blk_drewN ?_ _ | refine blk_drew ?_ | refine blk_alloc ?_ _)); exact BK460.out) hb); have n3_ := Aside0.mk (below_step (by repeat (first | (with_reducible first | exact HB.out | apply below_alloc | apply pw_below_drewN | apply below_drew1 | refine below_set ?_ GE458.out | refine below_set ?_ GE459.out | refine below_set ?_ GE460.out) | exact HB.out)) hb); clear BK458; clear BK459; clear BK460; clear HB; have BK458 := n0_; have BK459 := n1_; have BK460 := n2_; have HB := n3_; clear n0_ n1_ n2_ n3_; (try clear hb); (try clear hb2); (try clear hk); (try clear hi)))
        go_meet
        case rel => exact ⟨_, (decide (t461 < a1)), (by first | rfl | (simp; done) | (simp [*]; done)), H', ⟨by first | omega | exact Nat.le_refl _⟩, ⟨by (with_reducible repeat (first | refine blk_drewN ?_ _ | refine blk_drew ?_ | refine blk_alloc ?_ _)); exact BK458.out⟩, ⟨by (with_reducible repeat (first | refine blk_drewN ?_ _ | refine blk_drew ?_ | refine blk_alloc ?_ _)); exact BK459.out⟩, ⟨by (with_reducible repeat (first | refine blk_drewN ?_ _ | refine blk_drew ?_ | refine blk_alloc ?_ _)); exact BK460.out⟩, ⟨by repeat (first | (with_reducible first | exact HB.out | apply below_alloc | apply pw_below_drewN | apply below_drew1 | refine below_set ?_ GE458.out | refine below_set ?_ GE459.out | refine below_set ?_ GE460.out) | exact HB.out)⟩⟩
  case rest =>
    clear HC3
    try clear c1
    try clear p2
    try clear c4
    try clear c7
    try clear c7b0
    try clear c8
    try clear c8b0
    try clear c10
    try clear c11
    try clear hcz12_0
    try clear hcz12_1
    try clear hcz12_2
    try clear hcz12_3
    try clear hcz12_4
    try clear hcz12_5
    try clear hfz12_0
    try clear hfz12_1
    try clear hfz12_2
    try clear hfz12_3
    try clear hfz12_4
    try clear hfz12_5
    obtain ⟨kq, x18_2, rfl, HA, HJ2, BK458, BK459, BK460, HB⟩ := hcut
    cases kq with
    | zero => exact absurd HA.out (by simp [relictref20_Bytes.j0])
    | succ kj2 =>
      have H := HA.out
      clear HA
      simp only [relictref20_Bytes.j0] at H
      by_cases c14 : x18_2 = true
      · subst c14
        have H1 : (some (0, false, ([] : List Int), (⟨#[]⟩ : ByteArray), 0, ([] : List (S45)), 0, false, ([] : List Int), (⟨#[]⟩ : ByteArray), 0, ([] : List (S45)), false)) = some (r1, r2, r3, r4, r5, r6, r7, r8, r9, r10, r11, r12, r13) := by rw [if_pos rfl] at H; exact H
        clear H
        have H := H1
        clear H1
        simp only [Option.some.injEq, Prod.mk.injEq] at H
        obtain ⟨rfl, rfl, rfl, rfl, rfl, rfl, rfl, rfl, rfl, rfl, rfl, rfl, rfl⟩ := H
        have hnb15 := NB459_458.out
        have hnc15 := NB458_459.out
        have hnb16 := NB459_460.out
        have hnc16 := NB460_459.out
        have hcz17_0 : wc.cell? ⟨gb459, 0, none⟩ = some (.int .i64 0) := (blk_cell BK459.out 0).trans rfl
        have hcz17_1 : wc.cell? ⟨gb459, 1, none⟩ = some (.bool false) := (blk_cell BK459.out 1).trans rfl
        have hcz17_2 : wc.cell? ⟨gb459, 2, none⟩ = some (.slice none 0 0) := (blk_cell BK459.out 2).trans rfl
        have hcz17_3 : wc.cell? ⟨gb459, 3, none⟩ = some (.string (⟨#[]⟩ : ByteArray)) := (blk_cell BK459.out 3).trans rfl
        have hcz17_4 : wc.cell? ⟨gb459, 4, none⟩ = some (.int .i64 0) := (blk_cell BK459.out 4).trans rfl
        have hcz17_5 : wc.cell? ⟨gb459, 5, none⟩ = some (.slice none 0 0) := (blk_cell BK459.out 5).trans rfl
        have hfz17_0 := blk_frozen BK459.out 0
        have hfz17_1 := blk_frozen BK459.out 1
        have hfz17_2 := blk_frozen BK459.out 2
        have hfz17_3 := blk_frozen BK459.out 3
        have hfz17_4 := blk_frozen BK459.out 4
        have hfz17_5 := blk_frozen BK459.out 5
        have hnb18 := NB460_458.out
        have hnc18 := NB458_460.out
        have hcz19_0 : wc.cell? ⟨gb460, 0, none⟩ = some (.int .i64 0) := (blk_cell BK460.out 0).trans rfl
        have hcz19_1 : wc.cell? ⟨gb460, 1, none⟩ = some (.bool false) := (blk_cell BK460.out 1).trans rfl
        have hcz19_2 : wc.cell? ⟨gb460, 2, none⟩ = some (.slice none 0 0) := (blk_cell BK460.out 2).trans rfl
        have hcz19_3 : wc.cell? ⟨gb460, 3, none⟩ = some (.string (⟨#[]⟩ : ByteArray)) := (blk_cell BK460.out 3).trans rfl
        have hcz19_4 : wc.cell? ⟨gb460, 4, none⟩ = some (.int .i64 0) := (blk_cell BK460.out 4).trans rfl
        have hcz19_5 : wc.cell? ⟨gb460, 5, none⟩ = some (.slice none 0 0) := (blk_cell BK460.out 5).trans rfl
        have hfz19_0 := blk_frozen BK460.out 0
        have hfz19_1 := blk_frozen BK460.out 1
        have hfz19_2 := blk_frozen BK460.out 2
        have hfz19_3 := blk_frozen BK460.out 3
        have hfz19_4 := blk_frozen BK460.out 4
        have hfz19_5 := blk_frozen BK460.out 5
        go_wp2
        refine bodyPost_ret (results_list (rs := [.cell 4 45, .cell 5 45, .tmp 6]) rfl (by simp) (.cell gb459 45 #[.int .i64 0, .bool false, .slice none 0 0, .string (⟨#[]⟩ : ByteArray), .int .i64 0, .slice none 0 0] (0, 0) _ rfl (by (with_reducible repeat (first | refine blk_drewN ?_ _ | refine blk_drew ?_ | refine blk_alloc ?_ _)); refine blk_far ?_ NB459_460.out _; (with_reducible repeat (first | refine blk_drewN ?_ _ | refine blk_drew ?_ | refine blk_alloc ?_ _)); refine blk_far ?_ NB459_460.out _; (with_reducible repeat (first | refine blk_drewN ?_ _ | refine blk_drew ?_ | refine blk_alloc ?_ _)); refine blk_far ?_ NB459_460.out _; (with_reducible repeat (first | refine blk_drewN ?_ _ | refine blk_drew ?_ | refine blk_alloc ?_ _)); refine blk_far ?_ NB459_460.out _; (with_reducible repeat (first | refine blk_drewN ?_ _ | refine blk_drew ?_ | refine blk_alloc ?_ _)); refine blk_far ?_ NB459_460.out _; (with_reducible repeat (first | refine blk_drewN ?_ _ | refine blk_drew ?_ | refine blk_alloc ?_ _)); refine blk_far ?_ NB459_460.out _; (with_reducible repeat (first | refine blk_drewN ?_ _ | refine blk_drew ?_ | refine blk_alloc ?_ _)); refine blk_put (cs := #[.int .i64 0, .bool false, .slice none 0 0, .string (⟨#[]⟩ : ByteArray), .int .i64 0, .slice none 0 0]) ?_ 5 _ rfl; (with_reducible repeat (first | refine blk_drewN ?_ _ | refine blk_drew ?_ | refine blk_alloc ?_ _)); refine blk_put (cs := #[.int .i64 0, .bool false, .slice none 0 0, .string (⟨#[]⟩ : ByteArray), .int .i64 0, .slice none 0 0]) ?_ 4 _ rfl; (with_reducible repeat (first | refine blk_drewN ?_ _ | refine blk_drew ?_ | refine blk_alloc ?_ _)); refine blk_put (cs := #[.int .i64 0, .bool false, .slice none 0 0, .string (⟨#[]⟩ : ByteArray), .int .i64 0, .slice none 0 0]) ?_ 3 _ rfl; (with_reducible repeat (first | refine blk_drewN ?_ _ | refine blk_drew ?_ | refine blk_alloc ?_ _)); refine blk_put (cs := #[.int .i64 0, .bool false, .slice none 0 0, .string (⟨#[]⟩ : ByteArray), .int .i64 0, .slice none 0 0]) ?_ 2 _ rfl; (with_reducible repeat (first | refine blk_drewN ?_ _ | refine blk_drew ?_ | refine blk_alloc ?_ _)); refine blk_put (cs := #[.int .i64 0, .bool false, .slice none 0 0, .string (⟨#[]⟩ : ByteArray), .int .i64 0, .slice none 0 0]) ?_ 1 _ rfl; (with_reducible repeat (first | refine blk_drewN ?_ _ | refine blk_drew ?_ | refine blk_alloc ?_ _)); refine blk_put (cs := #[.int .i64 0, .bool false, .slice none 0 0, .string (⟨#[]⟩ : ByteArray), .int .i64 0, .slice none 0 0]) ?_ 0 _ rfl; (with_reducible repeat (first | refine blk_drewN ?_ _ | refine blk_drew ?_ | refine blk_alloc ?_ _)); exact BK459.out) Try.underlying45 rfl (by kernel_rfl) (.cell gb460 45 #[.int .i64 0, .bool false, .slice none 0 0, .string (⟨#[]⟩ : ByteArray), .int .i64 0, .slice none 0 0] (0, 0) _ rfl (by (with_reducible repeat (first | refine blk_drewN ?_ _ | refine blk_drew ?_ | refine blk_alloc ?_ _)); refine blk_put (cs := #[.int .i64 0, .bool false, .slice none 0 0, .string (⟨#[]⟩ : ByteArray), .int .i64 0, .slice none 0 0]) ?_ 5 _ rfl; (with_reducible repeat (first | refine blk_drewN ?_ _ | refine blk_drew ?_ | refine blk_alloc ?_ _)); refine blk_put (cs := #[.int .i64 0, .bool false, .slice none 0 0, .string (⟨#[]⟩ : ByteArray), .int .i64 0, .slice none 0 0]) ?_ 4 _ rfl; (with_reducible repeat (first | refine blk_drewN ?_ _ | refine blk_drew ?_ | refine blk_alloc ?_ _)); refine blk_put (cs := #[.int .i64 0, .bool false, .slice none 0 0, .string (⟨#[]⟩ : ByteArray), .int .i64 0, .slice none 0 0]) ?_ 3 _ rfl; (with_reducible repeat (first | refine blk_drewN ?_ _ | refine blk_drew ?_ | refine blk_alloc ?_ _)); refine blk_put (cs := #[.int .i64 0, .bool false, .slice none 0 0, .string (⟨#[]⟩ : ByteArray), .int .i64 0, .slice none 0 0]) ?_ 2 _ rfl; (with_reducible repeat (first | refine blk_drewN ?_ _ | refine blk_drew ?_ | refine blk_alloc ?_ _)); refine blk_put (cs := #[.int .i64 0, .bool false, .slice none 0 0, .string (⟨#[]⟩ : ByteArray), .int .i64 0, .slice none 0 0]) ?_ 1 _ rfl; (with_reducible repeat (first | refine blk_drewN ?_ _ | refine blk_drew ?_ | refine blk_alloc ?_ _)); refine blk_put (cs := #[.int .i64 0, .bool false, .slice none 0 0, .string (⟨#[]⟩ : ByteArray), .int .i64 0, .slice none 0 0]) ?_ 0 _ rfl; (with_reducible repeat (first | refine blk_drewN ?_ _ | refine blk_drew ?_ | refine blk_alloc ?_ _)); refine blk_far ?_ NB460_459.out _; (with_reducible repeat (first | refine blk_drewN ?_ _ | refine blk_drew ?_ | refine blk_alloc ?_ _)); refine blk_far ?_ NB460_459.out _; (with_reducible repeat (first | refine blk_drewN ?_ _ | refine blk_drew ?_ | refine blk_alloc ?_ _)); refine blk_far ?_ NB460_459.out _; (with_reducible repeat (first | refine blk_drewN ?_ _ | refine blk_drew ?_ | refine blk_alloc ?_ _)); refine blk_far ?_ NB460_459.out _; (with_reducible repeat (first | refine blk_drewN ?_ _ | refine blk_drew ?_ | refine blk_alloc ?_ _)); refine blk_far ?_ NB460_459.out _; (with_reducible repeat (first | refine blk_drewN ?_ _ | refine blk_drew ?_ | refine blk_alloc ?_ _)); refine blk_far ?_ NB460_459.out _; (with_reducible repeat (first | refine blk_drewN ?_ _ | refine blk_drew ?_ | refine blk_alloc ?_ _)); exact BK460.out) Try.underlying45 rfl (by kernel_rfl) (.tmp .nil)))) rfl ?_
        exact ⟨_, _, _, _, by first | rfl | (simp [errW_none, errW_some] <;> rfl) | (simp [*, errW_none, errW_some] <;> rfl), by first | exact Kd.R_nil _ _ _ _ _ | exact Kd.N_nil _ _ _ _ _ | exact Kd.V_nil _ _ _ _ _ | exact Kd.Q_nil _ _ _ _ _ | exact Kd.S_nil _ _ _ _ _, by first | exact Kd.R_nil _ _ _ _ _ | exact Kd.N_nil _ _ _ _ _ | exact Kd.V_nil _ _ _ _ _ | exact Kd.Q_nil _ _ _ _ _ | exact Kd.S_nil _ _ _ _ _, by first | exact Kd.R_nil _ _ _ _ _ | exact Kd.N_nil _ _ _ _ _ | exact Kd.V_nil _ _ _ _ _ | exact Kd.Q_nil _ _ _ _ _ | exact Kd.S_nil _ _ _ _ _, by first | exact Kd.R_nil _ _ _ _ _ | exact Kd.N_nil _ _ _ _ _ | exact Kd.V_nil _ _ _ _ _ | exact Kd.Q_nil _ _ _ _ _ | exact Kd.S_nil _ _ _ _ _, by repeat (first | (with_reducible first | exact HB.out | apply below_alloc | apply pw_below_drewN | apply below_drew1 | refine below_set ?_ GE458.out | refine below_set ?_ GE459.out | refine below_set ?_ GE460.out) | exact HB.out)⟩
      · replace c14 := Bool.eq_false_iff.mpr c14
        subst c14
        have H1 : ((relictref20_at.f a0_0 a0_1 l0_2 a0_3 a0_4 l0_5).bind fun t462 => ((relictref20_at.f a0_0 a0_1 l0_2 a0_3 a0_4 l0_5).bind fun t463 => (if 0 ≤ t462 then (if t462 ≤ (wrap64 (t463 + a1)) then (if (wrap64 (t463 + a1)) ≤ (a0_3.size : Int) then ((relictref20_behind.f a0_0 a0_1 l0_2 a0_3 a0_4 l0_5 a1).bind fun bt464 => (some (6, false, ([] : List Int), a0_3.extract (t462 : Int).toNat ((wrap64 (t463 + a1)) : Int).toNat, 0, ([] : List (S45)), bt464.1, bt464.2.1, bt464.2.2.1, bt464.2.2.2.1, bt464.2.2.2.2.1, bt464.2.2.2.2.2, true))) else (none)) else (none)) else (none)))) = some (r1, r2, r3, r4, r5, r6, r7, r8, r9, r10, r11, r12, r13) := by rw [if_neg (show ¬ (false = true) by decide)] at H; exact H
        clear H
        have H := H1
        clear H1
        replace H := Option.bind_eq_some_iff.mp H
        obtain ⟨t462, A200, H⟩ := H
        replace H : ((relictref20_at.f a0_0 a0_1 l0_2 a0_3 a0_4 l0_5).bind fun t463 => (if 0 ≤ t462 then (if t462 ≤ (wrap64 (t463 + a1)) then (if (wrap64 (t463 + a1)) ≤ (a0_3.size : Int) then ((relictref20_behind.f a0_0 a0_1 l0_2 a0_3 a0_4 l0_5 a1).bind fun bt464 => (some (6, false, ([] : List Int), a0_3.extract (t462 : Int).toNat ((wrap64 (t463 + a1)) : Int).toNat, 0, ([] : List (S45)), bt464.1, bt464.2.1, bt464.2.2.1, bt464.2.2.2.1, bt464.2.2.2.2.1, bt464.2.2.2.2.2, true))) else (none)) else (none)) else (none))) = some (r1, r2, r3, r4, r5, r6, r7, r8, r9, r10, r11, r12, r13) := H
        have A20 := Aside0.mk A200
        clear A200
        replace H := Option.bind_eq_some_iff.mp H
        obtain ⟨t463, A210, H⟩ := H
        replace H : (if 0 ≤ t462 then (if t462 ≤ (wrap64 (t463 + a1)) then (if (wrap64 (t463 + a1)) ≤ (a0_3.size : Int) then ((relictref20_behind.f a0_0 a0_1 l0_2 a0_3 a0_4 l0_5 a1).bind fun bt464 => (some (6, false, ([] : List Int), a0_3.extract (t462 : Int).toNat ((wrap64 (t463 + a1)) : Int).toNat, 0, ([] : List (S45)), bt464.1, bt464.2.1, bt464.2.2.1, bt464.2.2.2.1, bt464.2.2.2.2.1, bt464.2.2.2.2.2, true))) else (none)) else (none)) else (none)) = some (r1, r2, r3, r4, r5, r6, r7, r8, r9, r10, r11, r12, r13) := H
        have A21 := Aside0.mk A210
        clear A210
        by_cases c22 : 0 ≤ t462
        · rw [if_pos c22] at H
          have c22b0 := eq_true c22
          have c22b1 : decide (0 ≤ t462) = true := decide_eq_true c22
          clear c22
          by_cases c23 : t462 ≤ (wrap64 (t463 + a1))
          · rw [if_pos c23] at H
            have c23b0 := eq_true c23
            have c23b1 : decide (t462 ≤ (wrap64 (t463 + a1))) = true := decide_eq_true c23
            by_cases c24 : (wrap64 (t463 + a1)) ≤ (a0_3.size : Int)
            · rw [if_pos c24] at H
              have c24b0 := eq_true c24
              have c24b1 : decide ((wrap64 (t463 + a1)) ≤ (a0_3.size : Int)) = true := decide_eq_true c24
              replace H := Option.bind_eq_some_iff.mp H
              obtain ⟨⟨t464, t465, t466, t469, t470, t471⟩, A250, H⟩ := H
              replace H : (some (6, false, ([] : List Int), a0_3.extract (t462 : Int).toNat ((wrap64 (t463 + a1)) : Int).toNat, 0, ([] : List (S45)), t464, t465, t466, t469, t470, t471, true)) = some (r1, r2, r3, r4, r5, r6, r7, r8, r9, r10, r11, r12, r13) := H
              have A25 := Aside0.mk A250
              clear A250
              simp only [Option.some.injEq, Prod.mk.injEq] at H
              obtain ⟨rfl, rfl, rfl, rfl, rfl, rfl, rfl, rfl, rfl, rfl, rfl, rfl, rfl⟩ := H
              try go_wp2
              have n0_ := Aside0.mk (blk_drew BK458.out)
              have n1_ := Aside0.mk (blk_drew BK459.out)
              have n2_ := Aside0.mk (blk_drew BK460.out)
              have n3_ := Aside0.mk (below_drew1 HB.out)
              clear BK458
              clear BK459
              clear BK460
              clear HB
              have BK458 := n0_
              have BK459 := n1_
              have BK460 := n2_
              have HB := n3_
              clear n0_ n1_ n2_ n3_
              refine start_ (n := 16) (S := fun w' => w'.cell? ⟨gb458, 0, none⟩ = some (.int .i64 a0_0) ∧ w'.cell? ⟨gb458, 1, none⟩ = some (.bool a0_1) ∧ w'.cell? ⟨gb458, 2, none⟩ = some (.slice A0_2 l0_2.length c0_2) ∧ w'.cell? ⟨gb458, 3, none⟩ = some (.string a0_3) ∧ w'.cell? ⟨gb458, 4, none⟩ = some (.int .i64 a0_4) ∧ w'.cell? ⟨gb458, 5, none⟩ = some (.slice A0_5 l0_5.length c0_5)) (ds := []) #[false, false, false, false, false, false, false, false, false, false, false, false, false, false, false, false] (by kernel_rfl) rfl rfl ⟨(blk_cell BK458.out 0).trans rfl, (blk_cell BK458.out 1).trans rfl, (blk_cell BK458.out 2).trans rfl, (blk_cell BK458.out 3).trans rfl, (blk_cell BK458.out 4).trans rfl, (blk_cell BK458.out 5).trans rfl⟩ (fun hHeld => ?_); refine with_tabW relictref20_Bytes.tab3 relictref20_Bytes.bits3 (fun HT_ HW_ => ?_)
              generalize wc.drew = w26 at BK458 BK459 BK460 HB hHeld ⊢
              refine pure_ (i := 0) (N := some 21) (v := ?_) (a' := ?_) #[true, false, false, false, false, false, false, false, false, false, false, false, false, false, false, false] rfl rfl (any_of HT_.out (by kernel_rfl)) (fun _ _ _ h => h) (Or.inl ⟨by rfl, ?_⟩) ?_ ?_
              rotate_left
              · intro w'
                go_simp
                with_reducible rfl
              rotate_left
              · simp only [Act.put, List.setIfInBounds_toArray, List.set_cons_zero, List.set_cons_succ, i64_w, i32_w]
                rfl
              refine pure_ (i := 6) (N := some 27) (v := ?_) (a' := ?_) #[true, false, false, false, false, false, true, false, false, false, false, false, false, false, false, false] rfl rfl (any_of HT_.out (by kernel_rfl)) (fun _ _ _ h => h) (Or.inl ⟨by rfl, ?_⟩) ?_ ?_
              rotate_left
              · intro w'
                go_simp
                with_reducible rfl
              rotate_left
              · simp only [Act.put, List.setIfInBounds_toArray, List.set_cons_zero, List.set_cons_succ, i64_w, i32_w]
                rfl
              refine pure_ (i := 11) (N := some 32) (v := ?_) (a' := ?_) #[true, false, false, false, false, false, true, false, false, false, false, true, false, false, false, false] rfl rfl (any_of HT_.out (by kernel_rfl)) (fun _ _ _ h => h) (Or.inl ⟨by rfl, ?_⟩) ?_ ?_
              rotate_left
              · intro w'
                go_simp
                with_reducible rfl
              rotate_left
              · simp only [Act.put, List.setIfInBounds_toArray, List.set_cons_zero, List.set_cons_succ, i64_w, i32_w]
                rfl
              refine take_ (i := 1) (N := some 22) (v := ?_) (a' := ?_) #[true, true, false, false, false, false, true, false, false, false, false, true, false, false, false, false] rfl rfl (take_ofW HT_.out HW_.out (by kernel_rfl)) (fun _ _ _ h => h) (Or.inl ⟨by rfl, ?_⟩) hHeld ?_ ?_
              rotate_left
              · rintro w' ⟨s0, s1, s2, s3, s4, s5⟩
                go_simp
                with_reducible rfl
              rotate_left
              · simp only [Act.put, List.setIfInBounds_toArray, List.set_cons_zero, List.set_cons_succ, i64_w, i32_w]
                rfl
              refine take_ (i := 2) (N := some 23) (v := ?_) (a' := ?_) #[true, true, true, false, false, false, true, false, false, false, false, true, false, false, false, false] rfl rfl (take_ofW HT_.out HW_.out (by kernel_rfl)) (fun _ _ _ h => h) (Or.inl ⟨by rfl, ?_⟩) hHeld ?_ ?_
              rotate_left
              · rintro w' ⟨s0, s1, s2, s3, s4, s5⟩
                go_simp
                with_reducible rfl
              rotate_left
              · simp only [Act.put, List.setIfInBounds_toArray, List.set_cons_zero, List.set_cons_succ, i64_w, i32_w]
                rfl
              refine take_ (i := 4) (N := some 25) (v := ?_) (a' := ?_) #[true, true, true, false, true, false, true, false, false, false, false, true, false, false, false, false] rfl rfl (take_ofW HT_.out HW_.out (by kernel_rfl)) (fun _ _ _ h => h) (Or.inl ⟨by rfl, ?_⟩) hHeld ?_ ?_
              rotate_left
              · rintro w' ⟨s0, s1, s2, s3, s4, s5⟩
                go_simp
                with_reducible rfl
              rotate_left
              · simp only [Act.put, List.setIfInBounds_toArray, List.set_cons_zero, List.set_cons_succ, i64_w, i32_w]
                rfl
              refine take_ (i := 10) (N := some 31) (v := ?_) (a' := ?_) #[true, true, true, false, true, false, true, false, false, false, true, true, false, false, false, false] rfl rfl (take_ofW HT_.out HW_.out (by kernel_rfl)) (fun _ _ _ h => h) (Or.inl ⟨by rfl, ?_⟩) hHeld ?_ ?_
              rotate_left
              · rintro w' ⟨s0, s1, s2, s3, s4, s5⟩
                go_simp
                with_reducible rfl
              rotate_left
              · simp only [Act.put, List.setIfInBounds_toArray, List.set_cons_zero, List.set_cons_succ, i64_w, i32_w]
                rfl
              refine one_ (i := 3) (N := some 24) #[true, true, true, true, true, false, true, false, false, false, true, true, false, false, false, false] rfl rfl (one_of HT_.out (by kernel_rfl)) (by decide) (fun K hK => ?_)
              refine goes_ Try.func96 (by kernel_rfl) rfl #[.agg #[.int .i64 a0_0, .bool a0_1, .slice A0_2 l0_2.length c0_2, .string a0_3, .int .i64 a0_4, .slice A0_5 l0_5.length c0_5]] (by rfl) rfl rfl (by (try simp only [List.map_toArray, List.map_cons, List.map_nil]); first | done | rfl | (simp only [List.length_drop, List.length_take]; rfl)) ?_
              with_reducible refine (relictref20_at.calls a0_0 a0_1 _ _ l0_2 a0_3 a0_4 _ _ l0_5 t462 _ ?side1 ?side2 ?side3 ?side4 A20.out).mono ?_
              (case side1 => repeat (first | exact (Kd.C_below HR0_2.out HB.out) | (with_reducible refine Kd.C_alloc ?_ _) | (with_reducible refine Kd.C_drewN ?_ _) | (with_reducible refine Kd.C_drew ?_)))
              (case side2 => exact HC0_2.out)
              (case side3 => repeat (first | exact (Kd.C_below HR0_5.out HB.out) | (with_reducible refine Kd.C_alloc ?_ _) | (with_reducible refine Kd.C_drewN ?_ _) | (with_reducible refine Kd.C_drew ?_)))
              (case side4 => exact HC0_5.out)
              rintro e w27 ⟨rfl, hb⟩
              refine ⟨_, rfl, ?_⟩
              have n0_ := Aside0.mk (blk_below (g := gb458) (o := .cells #[.int .i64 a0_0, .bool a0_1, .slice A0_2 l0_2.length c0_2, .string a0_3, .int .i64 a0_4, .slice A0_5 l0_5.length c0_5] 45 (0, 0)) (by (with_reducible repeat (first | refine blk_drewN ?_ _ | refine blk_drew ?_ | refine blk_alloc ?_ _)); exact BK458.out) hb)
              have n1_ := Aside0.mk (blk_below (g := gb459) (o := .cells #[.int .i64 0, .bool false, .slice none 0 0, .string (⟨#[]⟩ : ByteArray), .int .i64 0, .slice none 0 0] 45 (0, 0)) (by (with_reducible repeat (first | refine blk_drewN ?_ _ | refine blk_drew ?_ | refine blk_alloc ?_ _)); exact BK459.out) hb)
              have n2_ := Aside0.mk (blk_below (g := gb460) (o := .cells #[.int .i64 0, .bool false, .slice none 0 0, .string (⟨#[]⟩ : ByteArray), .int .i64 0, .slice none 0 0] 45 (0, 0)) (by (with_reducible repeat (first | refine blk_drewN ?_ _ | refine blk_drew ?_ | refine blk_alloc ?_ _)); exact BK460.out) hb)
              have n3_ := Aside0.mk (below_step (by repeat (first | (with_reducible first | exact HB.out | apply below_alloc | apply pw_below_drewN | apply below_drew1 | refine below_set ?_ GE458.out | refine below_set ?_ GE459.out | refine below_set ?_ GE460.out) | exact HB.out)) hb)
              clear BK458
              clear BK459
              clear BK460
              clear HB
              have BK458 := n0_
              have BK459 := n1_
              have BK460 := n2_
              have HB := n3_
              clear n0_ n1_ n2_ n3_
              (try clear hb)
              (try clear hb2)
              (try clear hk)
              (try clear hi)
              refine hK.out _ _ ⟨(blk_cell BK458.out 0).trans rfl, (blk_cell BK458.out 1).trans rfl, (blk_cell BK458.out 2).trans rfl, (blk_cell BK458.out 3).trans rfl, (blk_cell BK458.out 4).trans rfl, (blk_cell BK458.out 5).trans rfl⟩ (fun hHeld => ?_)
              clear hK K
              refine norm_ (a' := ?_) ?_ ?_
              rotate_left
              · show Act.put _ (some 24) _ = _
                simp only [Act.put, List.setIfInBounds_toArray, List.set_cons_zero, List.set_cons_succ, i64_w, i32_w]
                rfl
              refine one_ (i := 5) (N := some 26) #[true, true, true, true, true, true, true, false, false, false, true, true, false, false, false, false] rfl rfl (one_of HT_.out (by kernel_rfl)) (by decide) (fun K hK => ?_)
              refine goes_ Try.func96 (by kernel_rfl) rfl #[.agg #[.int .i64 a0_0, .bool a0_1, .slice A0_2 l0_2.length c0_2, .string a0_3, .int .i64 a0_4, .slice A0_5 l0_5.length c0_5]] (by rfl) rfl rfl (by (try simp only [List.map_toArray, List.map_cons, List.map_nil]); first | done | rfl | (simp only [List.length_drop, List.length_take]; rfl)) ?_
              with_reducible refine (relictref20_at.calls a0_0 a0_1 _ _ l0_2 a0_3 a0_4 _ _ l0_5 t463 _ ?side1 ?side2 ?side3 ?side4 A21.out).mono ?_
              (case side1 => repeat (first | exact (Kd.C_below HR0_2.out HB.out) | (with_reducible refine Kd.C_alloc ?_ _) | (with_reducible refine Kd.C_drewN ?_ _) | (with_reducible refine Kd.C_drew ?_)))
              (case side2 => exact HC0_2.out)
              (case side3 => repeat (first | exact (Kd.C_below HR0_5.out HB.out) | (with_reducible refine Kd.C_alloc ?_ _) | (with_reducible refine Kd.C_drewN ?_ _) | (with_reducible refine Kd.C_drew ?_)))
              (case side4 => exact HC0_5.out)
              rintro e w28 ⟨rfl, hb⟩
              refine ⟨_, rfl, ?_⟩
              have n0_ := Aside0.mk (blk_below (g := gb458) (o := .cells #[.int .i64 a0_0, .bool a0_1, .slice A0_2 l0_2.length c0_2, .string a0_3, .int .i64 a0_4, .slice A0_5 l0_5.length c0_5] 45 (0, 0)) (by (with_reducible repeat (first | refine blk_drewN ?_ _ | refine blk_drew ?_ | refine blk_alloc ?_ _)); exact BK458.out) hb)
              have n1_ := Aside0.mk (blk_below (g := gb459) (o := .cells #[.int .i64 0, .bool false, .slice none 0 0, .string (⟨#[]⟩ : ByteArray), .int .i64 0, .slice none 0 0] 45 (0, 0)) (by (with_reducible repeat (first | refine blk_drewN ?_ _ | refine blk_drew ?_ | refine blk_alloc ?_ _)); exact BK459.out) hb)
              have n2_ := Aside0.mk (blk_below (g := gb460) (o := .cells #[.int .i64 0, .bool false, .slice none 0 0, .string (⟨#[]⟩ : ByteArray), .int .i64 0, .slice none 0 0] 45 (0, 0)) (by (with_reducible repeat (first | refine blk_drewN ?_ _ | refine blk_drew ?_ | refine blk_alloc ?_ _)); exact BK460.out) hb)
              have n3_ := Aside0.mk (below_step (by repeat (first | (with_reducible first | exact HB.out | apply below_alloc | apply pw_below_drewN | apply below_drew1 | refine below_set ?_ GE458.out | refine below_set ?_ GE459.out | refine below_set ?_ GE460.out) | exact HB.out)) hb)
              clear BK458
              clear BK459
              clear BK460
              clear HB
              have BK458 := n0_
              have BK459 := n1_
              have BK460 := n2_
              have HB := n3_
              clear n0_ n1_ n2_ n3_
              (try clear hb)
              (try clear hb2)
              (try clear hk)
              (try clear hi)
              refine hK.out _ _ ⟨(blk_cell BK458.out 0).trans rfl, (blk_cell BK458.out 1).trans rfl, (blk_cell BK458.out 2).trans rfl, (blk_cell BK458.out 3).trans rfl, (blk_cell BK458.out 4).trans rfl, (blk_cell BK458.out 5).trans rfl⟩ (fun hHeld => ?_)
              clear hK K
              refine norm_ (a' := ?_) ?_ ?_
              rotate_left
              · show Act.put _ (some 26) _ = _
                simp only [Act.put, List.setIfInBounds_toArray, List.set_cons_zero, List.set_cons_succ, i64_w, i32_w]
                rfl
              refine pure_ (i := 7) (N := some 28) (v := ?_) (a' := ?_) #[true, true, true, true, true, true, true, true, false, false, true, true, false, false, false, false] rfl rfl (any_of HT_.out (by kernel_rfl)) (fun _ _ _ h => h) (Or.inl ⟨by rfl, ?_⟩) ?_ ?_
              rotate_left
              · intro w'
                go_simp
                with_reducible rfl
              rotate_left
              · simp only [Act.put, List.setIfInBounds_toArray, List.set_cons_zero, List.set_cons_succ, i64_w, i32_w]
                rfl
              refine pure_ (i := 8) (N := some 29) (v := ?_) (a' := ?_) #[true, true, true, true, true, true, true, true, true, false, true, true, false, false, false, false] rfl rfl (any_of HT_.out (by kernel_rfl)) (fun _ _ _ h => h) (Or.inl ⟨by rfl, ?_⟩) ?_ ?_
              rotate_left
              · intro w'
                go_simp
                with_reducible rfl
              rotate_left
              · simp only [Act.put, List.setIfInBounds_toArray, List.set_cons_zero, List.set_cons_succ, i64_w, i32_w]
                rfl
              refine pure_ (i := 9) (N := some 30) (v := ?_) (a' := ?_) #[true, true, true, true, true, true, true, true, true, true, true, true, false, false, false, false] rfl rfl (any_of HT_.out (by kernel_rfl)) (fun _ _ _ h => h) (Or.inl ⟨by rfl, ?_⟩) ?_ ?_
              rotate_left
              · intro w'
                go_simp
                with_reducible rfl
              rotate_left
              · simp only [Act.put, List.setIfInBounds_toArray, List.set_cons_zero, List.set_cons_succ, i64_w, i32_w]
                rfl
              refine one_ (i := 12) (N := some 33) #[true, true, true, true, true, true, true, true, true, true, true, true, true, false, false, false] rfl rfl (one_of HT_.out (by kernel_rfl)) (by decide) (fun K hK => ?_)
              refine goes_ Try.func97 (by kernel_rfl) rfl #[.agg #[.int .i64 a0_0, .bool a0_1, .slice A0_2 l0_2.length c0_2, .string a0_3, .int .i64 a0_4, .slice A0_5 l0_5.length c0_5], .int .i64 a1] (by rfl) rfl rfl (by (try simp only [List.map_toArray, List.map_cons, List.map_nil]); first | done | rfl | (simp only [List.length_drop, List.length_take]; rfl)) ?_
              with_reducible refine (relictref20_behind.calls a0_0 a0_1 _ _ l0_2 a0_3 a0_4 _ _ l0_5 a1 t464 t465 t466 t469 t470 t471 _ ?side1 ?side2 ?side3 ?side4 A25.out).mono ?_
              (case side1 => repeat (first | exact (Kd.C_below HR0_2.out HB.out) | (with_reducible refine Kd.C_alloc ?_ _) | (with_reducible refine Kd.C_drewN ?_ _) | (with_reducible refine Kd.C_drew ?_)))
              (case side2 => exact HC0_2.out)
              (case side3 => repeat (first | exact (Kd.C_below HR0_5.out HB.out) | (with_reducible refine Kd.C_alloc ?_ _) | (with_reducible refine Kd.C_drewN ?_ _) | (with_reducible refine Kd.C_drew ?_)))
              (case side4 => exact HC0_5.out)
              rintro e w29 ⟨v467, v472, rfl, ho0, ho1, hb⟩
              refine ⟨_, rfl, ?_⟩
              have n0_ := Aside0.mk (Kd.R_lower ho0 (below_size (by repeat (first | (with_reducible first | exact HB.out | apply below_alloc | apply pw_below_drewN | apply below_drew1 | refine below_set ?_ GE458.out | refine below_set ?_ GE459.out | refine below_set ?_ GE460.out) | exact HB.out))))
              have n1_ := Aside0.mk (Kd.R_lower (Kd.R_newB (Kd.R_newB (Kd.R_newB ho1 (g := gb458) (o := .cells #[.int .i64 a0_0, .bool a0_1, .slice A0_2 l0_2.length c0_2, .string a0_3, .int .i64 a0_4, .slice A0_5 l0_5.length c0_5] 45 (0, 0)) (by (with_reducible repeat (first | refine blk_drewN ?_ _ | refine blk_drew ?_ | refine blk_alloc ?_ _)); exact BK458.out)) (g := gb459) (o := .cells #[.int .i64 0, .bool false, .slice none 0 0, .string (⟨#[]⟩ : ByteArray), .int .i64 0, .slice none 0 0] 45 (0, 0)) (by (with_reducible repeat (first | refine blk_drewN ?_ _ | refine blk_drew ?_ | refine blk_alloc ?_ _)); exact BK459.out)) (g := gb460) (o := .cells #[.int .i64 0, .bool false, .slice none 0 0, .string (⟨#[]⟩ : ByteArray), .int .i64 0, .slice none 0 0] 45 (0, 0)) (by (with_reducible repeat (first | refine blk_drewN ?_ _ | refine blk_drew ?_ | refine blk_alloc ?_ _)); exact BK460.out)) (below_size (by repeat (first | (with_reducible first | exact HB.out | apply below_alloc | apply pw_below_drewN | apply below_drew1 | refine below_set ?_ GE458.out | refine below_set ?_ GE459.out | refine below_set ?_ GE460.out) | exact HB.out))))
              have n2_ := Aside0.mk (blk_below (g := gb458) (o := .cells #[.int .i64 a0_0, .bool a0_1, .slice A0_2 l0_2.length c0_2, .string a0_3, .int .i64 a0_4, .slice A0_5 l0_5.length c0_5] 45 (0, 0)) (by (with_reducible repeat (first | refine blk_drewN ?_ _ | refine blk_drew ?_ | refine blk_alloc ?_ _)); exact BK458.out) hb)
              have n3_ := Aside0.mk (blk_below (g := gb459) (o := .cells #[.int .i64 0, .bool false, .slice none 0 0, .string (⟨#[]⟩ : ByteArray), .int .i64 0, .slice none 0 0] 45 (0, 0)) (by (with_reducible repeat (first | refine blk_drewN ?_ _ | refine blk_drew ?_ | refine blk_alloc ?_ _)); exact BK459.out) hb)
              have n4_ := Aside0.mk (blk_below (g := gb460) (o := .cells #[.int .i64 0, .bool false, .slice none 0 0, .string (⟨#[]⟩ : ByteArray), .int .i64 0, .slice none 0 0] 45 (0, 0)) (by (with_reducible repeat (first | refine blk_drewN ?_ _ | refine blk_drew ?_ | refine blk_alloc ?_ _)); exact BK460.out) hb)
              have n5_ := Aside0.mk (below_step (by repeat (first | (with_reducible first | exact HB.out | apply below_alloc | apply pw_below_drewN | apply below_drew1 | refine below_set ?_ GE458.out | refine below_set ?_ GE459.out | refine below_set ?_ GE460.out) | exact HB.out)) hb)
              clear BK458
              clear BK459
              clear BK460
              clear HB
              have HO468 := n0_
              have HO473 := n1_
              have BK458 := n2_
              have BK459 := n3_
              have BK460 := n4_
              have HB := n5_
              clear n0_ n1_ n2_ n3_ n4_ n5_
              (try clear hb)
              (try clear hb2)
              (try clear hk)
              (try clear hi)
              (try clear ho0)
              (try clear ho1)
              obtain ⟨Ao38, co38, eo38⟩ := Kd.R_slice HO468.out
              (first | subst eo38 | (injection eo38 with f1_ f2_ f3_; have f4_ := f1_.symm; have f5_ := f3_.symm; clear f1_ f2_ f3_; subst f4_; subst f5_))
              obtain ⟨Ao42, co42, eo42⟩ := Kd.R_slice HO473.out
              (first | subst eo42 | (injection eo42 with f1_ f2_ f3_; have f4_ := f1_.symm; have f5_ := f3_.symm; clear f1_ f2_ f3_; subst f4_; subst f5_))
              refine hK.out _ _ ⟨(blk_cell BK458.out 0).trans rfl, (blk_cell BK458.out 1).trans rfl, (blk_cell BK458.out 2).trans rfl, (blk_cell BK458.out 3).trans rfl, (blk_cell BK458.out 4).trans rfl, (blk_cell BK458.out 5).trans rfl⟩ (fun hHeld => ?_)
              clear hK K
              refine norm_ (a' := ?_) ?_ ?_
              rotate_left
              · show Act.put _ (some 33) _ = _
                simp only [Act.put, List.setIfInBounds_toArray, List.set_cons_zero, List.set_cons_succ, i64_w, i32_w]
                rfl
              refine one_ (i := 13) (N := none) #[true, true, true, true, true, true, true, true, true, true, true, true, true, true, false, false] rfl rfl (one_of HT_.out (by kernel_rfl)) (by decide) (fun K hK => ?_)
              have hs30 : w29.cell? ⟨gb459, 0, none⟩ = some (.int .i64 0) := (blk_cell BK459.out 0).trans rfl
              have hfs30 := blk_frozen BK459.out 0
              have hns30_0 := NB458_459.out
              have hns30_2 := NB460_459.out
              have hms30_0 := NB459_458.out
              have hms30_2 := NB459_460.out
              have hs31 : w29.cell? ⟨gb459, 1, none⟩ = some (.bool false) := (blk_cell BK459.out 1).trans rfl
              have hfs31 := blk_frozen BK459.out 1
              have hns31_0 := NB458_459.out
              have hns31_2 := NB460_459.out
              have hms31_0 := NB459_458.out
              have hms31_2 := NB459_460.out
              have hs32 : w29.cell? ⟨gb459, 2, none⟩ = some (.slice none 0 0) := (blk_cell BK459.out 2).trans rfl
              have hfs32 := blk_frozen BK459.out 2
              have hns32_0 := NB458_459.out
              have hns32_2 := NB460_459.out
              have hms32_0 := NB459_458.out
              have hms32_2 := NB459_460.out
              have hs33 : w29.cell? ⟨gb459, 3, none⟩ = some (.string (⟨#[]⟩ : ByteArray)) := (blk_cell BK459.out 3).trans rfl
              have hfs33 := blk_frozen BK459.out 3
              have hns33_0 := NB458_459.out
              have hns33_2 := NB460_459.out
              have hms33_0 := NB459_458.out
              have hms33_2 := NB459_460.out
              have hs34 : w29.cell? ⟨gb459, 4, none⟩ = some (.int .i64 0) := (blk_cell BK459.out 4).trans rfl
              have hfs34 := blk_frozen BK459.out 4
              have hns34_0 := NB458_459.out
              have hns34_2 := NB460_459.out
              have hms34_0 := NB459_458.out
              have hms34_2 := NB459_460.out
              have hs35 : w29.cell? ⟨gb459, 5, none⟩ = some (.slice none 0 0) := (blk_cell BK459.out 5).trans rfl
              have hfs35 := blk_frozen BK459.out 5
              have hns35_0 := NB458_459.out
              have hns35_2 := NB460_459.out
              have hms35_0 := NB459_458.out
              have hms35_2 := NB459_460.out
              refine skip_ (w1 := ?_) (by rfl) rfl ?_ ?_
              rotate_left
              · go_simp
                rfl
              refine hK.out _ _ ⟨((cell_far (p := ⟨gb459, _, none⟩) NB458_459.out _).trans (((cell_far (p := ⟨gb459, _, none⟩) NB458_459.out _).trans (((cell_far (p := ⟨gb459, _, none⟩) NB458_459.out _).trans (((cell_far (p := ⟨gb459, _, none⟩) NB458_459.out _).trans (((cell_far (p := ⟨gb459, _, none⟩) NB458_459.out _).trans (((cell_far (p := ⟨gb459, _, none⟩) NB458_459.out _).trans (hHeld.1)))))))))))), ((cell_far (p := ⟨gb459, _, none⟩) NB458_459.out _).trans (((cell_far (p := ⟨gb459, _, none⟩) NB458_459.out _).trans (((cell_far (p := ⟨gb459, _, none⟩) NB458_459.out _).trans (((cell_far (p := ⟨gb459, _, none⟩) NB458_459.out _).trans (((cell_far (p := ⟨gb459, _, none⟩) NB458_459.out _).trans (((cell_far (p := ⟨gb459, _, none⟩) NB458_459.out _).trans (hHeld.2.1)))))))))))), ((cell_far (p := ⟨gb459, _, none⟩) NB458_459.out _).trans (((cell_far (p := ⟨gb459, _, none⟩) NB458_459.out _).trans (((cell_far (p := ⟨gb459, _, none⟩) NB458_459.out _).trans (((cell_far (p := ⟨gb459, _, none⟩) NB458_459.out _).trans (((cell_far (p := ⟨gb459, _, none⟩) NB458_459.out _).trans (((cell_far (p := ⟨gb459, _, none⟩) NB458_459.out _).trans (hHeld.2.2.1)))))))))))), ((cell_far (p := ⟨gb459, _, none⟩) NB458_459.out _).trans (((cell_far (p := ⟨gb459, _, none⟩) NB458_459.out _).trans (((cell_far (p := ⟨gb459, _, none⟩) NB458_459.out _).trans (((cell_far (p := ⟨gb459, _, none⟩) NB458_459.out _).trans (((cell_far (p := ⟨gb459, _, none⟩) NB458_459.out _).trans (((cell_far (p := ⟨gb459, _, none⟩) NB458_459.out _).trans (hHeld.2.2.2.1)))))))))))), ((cell_far (p := ⟨gb459, _, none⟩) NB458_459.out _).trans (((cell_far (p := ⟨gb459, _, none⟩) NB458_459.out _).trans (((cell_far (p := ⟨gb459, _, none⟩) NB458_459.out _).trans (((cell_far (p := ⟨gb459, _, none⟩) NB458_459.out _).trans (((cell_far (p := ⟨gb459, _, none⟩) NB458_459.out _).trans (((cell_far (p := ⟨gb459, _, none⟩) NB458_459.out _).trans (hHeld.2.2.2.2.1)))))))))))), ((cell_far (p := ⟨gb459, _, none⟩) NB458_459.out _).trans (((cell_far (p := ⟨gb459, _, none⟩) NB458_459.out _).trans (((cell_far (p := ⟨gb459, _, none⟩) NB458_459.out _).trans (((cell_far (p := ⟨gb459, _, none⟩) NB458_459.out _).trans (((cell_far (p := ⟨gb459, _, none⟩) NB458_459.out _).trans (((cell_far (p := ⟨gb459, _, none⟩) NB458_459.out _).trans (hHeld.2.2.2.2.2))))))))))))⟩ (fun hHeld => ?_)
              clear hK K
              refine one_ (i := 14) (N := none) #[true, true, true, true, true, true, true, true, true, true, true, true, true, true, true, false] rfl rfl (one_of HT_.out (by kernel_rfl)) (by decide) (fun K hK => ?_)
              have hs36 : w29.cell? ⟨gb460, 0, none⟩ = some (.int .i64 0) := (blk_cell BK460.out 0).trans rfl
              have hfs36 := blk_frozen BK460.out 0
              have hns36_0 := NB458_460.out
              have hns36_1 := NB459_460.out
              have hms36_0 := NB460_458.out
              have hms36_1 := NB460_459.out
              have hs37 : w29.cell? ⟨gb460, 1, none⟩ = some (.bool false) := (blk_cell BK460.out 1).trans rfl
              have hfs37 := blk_frozen BK460.out 1
              have hns37_0 := NB458_460.out
              have hns37_1 := NB459_460.out
              have hms37_0 := NB460_458.out
              have hms37_1 := NB460_459.out
              have hs39 : w29.cell? ⟨gb460, 2, none⟩ = some (.slice none 0 0) := (blk_cell BK460.out 2).trans rfl
              have hfs39 := blk_frozen BK460.out 2
              have hns39_0 := NB458_460.out
              have hns39_1 := NB459_460.out
              have hms39_0 := NB460_458.out
              have hms39_1 := NB460_459.out
              have hs40 : w29.cell? ⟨gb460, 3, none⟩ = some (.string (⟨#[]⟩ : ByteArray)) := (blk_cell BK460.out 3).trans rfl
              have hfs40 := blk_frozen BK460.out 3
              have hns40_0 := NB458_460.out
              have hns40_1 := NB459_460.out
              have hms40_0 := NB460_458.out
              have hms40_1 := NB460_459.out
              have hs41 : w29.cell? ⟨gb460, 4, none⟩ = some (.int .i64 0) := (blk_cell BK460.out 4).trans rfl
              have hfs41 := blk_frozen BK460.out 4
              have hns41_0 := NB458_460.out
              have hns41_1 := NB459_460.out
              have hms41_0 := NB460_458.out
              have hms41_1 := NB460_459.out
              have hs43 : w29.cell? ⟨gb460, 5, none⟩ = some (.slice none 0 0) := (blk_cell BK460.out 5).trans rfl
              have hfs43 := blk_frozen BK460.out 5
              have hns43_0 := NB458_460.out
              have hns43_1 := NB459_460.out
              have hms43_0 := NB460_458.out
              have hms43_1 := NB460_459.out
              refine skip_ (w1 := ?_) (by rfl) rfl ?_ ?_
              rotate_left
              · go_simp
                rfl
              refine hK.out _ _ ⟨((cell_far (p := ⟨gb460, _, none⟩) NB458_460.out _).trans (((cell_far (p := ⟨gb460, _, none⟩) NB458_460.out _).trans (((cell_far (p := ⟨gb460, _, none⟩) NB458_460.out _).trans (((cell_far (p := ⟨gb460, _, none⟩) NB458_460.out _).trans (((cell_far (p := ⟨gb460, _, none⟩) NB458_460.out _).trans (((cell_far (p := ⟨gb460, _, none⟩) NB458_460.out _).trans (hHeld.1)))))))))))), ((cell_far (p := ⟨gb460, _, none⟩) NB458_460.out _).trans (((cell_far (p := ⟨gb460, _, none⟩) NB458_460.out _).trans (((cell_far (p := ⟨gb460, _, none⟩) NB458_460.out _).trans (((cell_far (p := ⟨gb460, _, none⟩) NB458_460.out _).trans (((cell_far (p := ⟨gb460, _, none⟩) NB458_460.out _).trans (((cell_far (p := ⟨gb460, _, none⟩) NB458_460.out _).trans (hHeld.2.1)))))))))))), ((cell_far (p := ⟨gb460, _, none⟩) NB458_460.out _).trans (((cell_far (p := ⟨gb460, _, none⟩) NB458_460.out _).trans (((cell_far (p := ⟨gb460, _, none⟩) NB458_460.out _).trans (((cell_far (p := ⟨gb460, _, none⟩) NB458_460.out _).trans (((cell_far (p := ⟨gb460, _, none⟩) NB458_460.out _).trans (((cell_far (p := ⟨gb460, _, none⟩) NB458_460.out _).trans (hHeld.2.2.1)))))))))))), ((cell_far (p := ⟨gb460, _, none⟩) NB458_460.out _).trans (((cell_far (p := ⟨gb460, _, none⟩) NB458_460.out _).trans (((cell_far (p := ⟨gb460, _, none⟩) NB458_460.out _).trans (((cell_far (p := ⟨gb460, _, none⟩) NB458_460.out _).trans (((cell_far (p := ⟨gb460, _, none⟩) NB458_460.out _).trans (((cell_far (p := ⟨gb460, _, none⟩) NB458_460.out _).trans (hHeld.2.2.2.1)))))))))))), ((cell_far (p := ⟨gb460, _, none⟩) NB458_460.out _).trans (((cell_far (p := ⟨gb460, _, none⟩) NB458_460.out _).trans (((cell_far (p := ⟨gb460, _, none⟩) NB458_460.out _).trans (((cell_far (p := ⟨gb460, _, none⟩) NB458_460.out _).trans (((cell_far (p := ⟨gb460, _, none⟩) NB458_460.out _).trans (((cell_far (p := ⟨gb460, _, none⟩) NB458_460.out _).trans (hHeld.2.2.2.2.1)))))))))))), ((cell_far (p := ⟨gb460, _, none⟩) NB458_460.out _).trans (((cell_far (p := ⟨gb460, _, none⟩) NB458_460.out _).trans (((cell_far (p := ⟨gb460, _, none⟩) NB458_460.out _).trans (((cell_far (p := ⟨gb460, _, none⟩) NB458_460.out _).trans (((cell_far (p := ⟨gb460, _, none⟩) NB458_460.out _).trans (((cell_far (p := ⟨gb460, _, none⟩) NB458_460.out _).trans (hHeld.2.2.2.2.2))))))))))))⟩ (fun hHeld => ?_)
              clear hK K
              refine pure_ (i := 15) (N := some 6) (v := ?_) (a' := ?_) #[true, true, true, true, true, true, true, true, true, true, true, true, true, true, true, true] rfl rfl (any_of HT_.out (by kernel_rfl)) (fun _ _ _ h => h) (Or.inl ⟨by rfl, ?_⟩) ?_ ?_
              rotate_left
              · intro w'
                go_simp
                with_reducible rfl
              rotate_left
              · simp only [Act.put, List.setIfInBounds_toArray, List.set_cons_zero, List.set_cons_succ, i64_w, i32_w]
                rfl
              refine done_ (done_of HT_.out (by kernel_rfl)) ?_
              try go_wp2
              refine bodyPost_ret (results_list (rs := [.cell 4 45, .cell 5 45, .tmp 6]) rfl (by simp) (.cell gb459 45 #[.int .i64 6, .bool false, .slice none 0 0, .string (a0_3.extract (t462 : Int).toNat ((wrap64 (t463 + a1)) : Int).toNat), .int .i64 0, .slice none 0 0] (0, 0) _ rfl (by (with_reducible repeat (first | refine blk_drewN ?_ _ | refine blk_drew ?_ | refine blk_alloc ?_ _)); refine blk_far ?_ NB459_460.out _; (with_reducible repeat (first | refine blk_drewN ?_ _ | refine blk_drew ?_ | refine blk_alloc ?_ _)); refine blk_far ?_ NB459_460.out _; (with_reducible repeat (first | refine blk_drewN ?_ _ | refine blk_drew ?_ | refine blk_alloc ?_ _)); refine blk_far ?_ NB459_460.out _; (with_reducible repeat (first | refine blk_drewN ?_ _ | refine blk_drew ?_ | refine blk_alloc ?_ _)); refine blk_far ?_ NB459_460.out _; (with_reducible repeat (first | refine blk_drewN ?_ _ | refine blk_drew ?_ | refine blk_alloc ?_ _)); refine blk_far ?_ NB459_460.out _; (with_reducible repeat (first | refine blk_drewN ?_ _ | refine blk_drew ?_ | refine blk_alloc ?_ _)); refine blk_far ?_ NB459_460.out _; (with_reducible repeat (first | refine blk_drewN ?_ _ | refine blk_drew ?_ | refine blk_alloc ?_ _)); refine blk_put (cs := #[.int .i64 6, .bool false, .slice none 0 0, .string (a0_3.extract (t462 : Int).toNat ((wrap64 (t463 + a1)) : Int).toNat), .int .i64 0, .slice none 0 0]) ?_ 5 _ rfl; (with_reducible repeat (first | refine blk_drewN ?_ _ | refine blk_drew ?_ | refine blk_alloc ?_ _)); refine blk_put (cs := #[.int .i64 6, .bool false, .slice none 0 0, .string (a0_3.extract (t462 : Int).toNat ((wrap64 (t463 + a1)) : Int).toNat), .int .i64 0, .slice none 0 0]) ?_ 4 _ rfl; (with_reducible repeat (first | refine blk_drewN ?_ _ | refine blk_drew ?_ | refine blk_alloc ?_ _)); refine blk_put (cs := #[.int .i64 6, .bool false, .slice none 0 0, .string (⟨#[]⟩ : ByteArray), .int .i64 0, .slice none 0 0]) ?_ 3 _ rfl; (with_reducible repeat (first | refine blk_drewN ?_ _ | refine blk_drew ?_ | refine blk_alloc ?_ _)); refine blk_put (cs := #[.int .i64 6, .bool false, .slice none 0 0, .string (⟨#[]⟩ : ByteArray), .int .i64 0, .slice none 0 0]) ?_ 2 _ rfl; (with_reducible repeat (first | refine blk_drewN ?_ _ | refine blk_drew ?_ | refine blk_alloc ?_ _)); refine blk_put (cs := #[.int .i64 6, .bool false, .slice none 0 0, .string (⟨#[]⟩ : ByteArray), .int .i64 0, .slice none 0 0]) ?_ 1 _ rfl; (with_reducible repeat (first | refine blk_drewN ?_ _ | refine blk_drew ?_ | refine blk_alloc ?_ _)); refine blk_put (cs := #[.int .i64 0, .bool false, .slice none 0 0, .string (⟨#[]⟩ : ByteArray), .int .i64 0, .slice none 0 0]) ?_ 0 _ rfl; (with_reducible repeat (first | refine blk_drewN ?_ _ | refine blk_drew ?_ | refine blk_alloc ?_ _)); exact BK459.out) Try.underlying45 rfl (by kernel_rfl) (.cell gb460 45 #[.int .i64 t464, .bool t465, .slice Ao38 t466.length co38, .string t469, .int .i64 t470, .slice Ao42 t471.length co42] (0, 0) _ rfl (by (with_reducible repeat (first | refine blk_drewN ?_ _ | refine blk_drew ?_ | refine blk_alloc ?_ _)); refine blk_put (cs := #[.int .i64 t464, .bool t465, .slice Ao38 t466.length co38, .string t469, .int .i64 t470, .slice none 0 0]) ?_ 5 _ rfl; (with_reducible repeat (first | refine blk_drewN ?_ _ | refine blk_drew ?_ | refine blk_alloc ?_ _)); refine blk_put (cs := #[.int .i64 t464, .bool t465, .slice Ao38 t466.length co38, .string t469, .int .i64 0, .slice none 0 0]) ?_ 4 _ rfl; (with_reducible repeat (first | refine blk_drewN ?_ _ | refine blk_drew ?_ | refine blk_alloc ?_ _)); refine blk_put (cs := #[.int .i64 t464, .bool t465, .slice Ao38 t466.length co38, .string (⟨#[]⟩ : ByteArray), .int .i64 0, .slice none 0 0]) ?_ 3 _ rfl; (with_reducible repeat (first | refine blk_drewN ?_ _ | refine blk_drew ?_ | refine blk_alloc ?_ _)); refine blk_put (cs := #[.int .i64 t464, .bool t465, .slice none 0 0, .string (⟨#[]⟩ : ByteArray), .int .i64 0, .slice none 0 0]) ?_ 2 _ rfl; (with_reducible repeat (first | refine blk_drewN ?_ _ | refine blk_drew ?_ | refine blk_alloc ?_ _)); refine blk_put (cs := #[.int .i64 t464, .bool false, .slice none 0 0, .string (⟨#[]⟩ : ByteArray), .int .i64 0, .slice none 0 0]) ?_ 1 _ rfl; (with_reducible repeat (first | refine blk_drewN ?_ _ | refine blk_drew ?_ | refine blk_alloc ?_ _)); refine blk_put (cs := #[.int .i64 0, .bool false, .slice none 0 0, .string (⟨#[]⟩ : ByteArray), .int .i64 0, .slice none 0 0]) ?_ 0 _ rfl; (with_reducible repeat (first | refine blk_drewN ?_ _ | refine blk_drew ?_ | refine blk_alloc ?_ _)); refine blk_far ?_ NB460_459.out _; (with_reducible repeat (first | refine blk_drewN ?_ _ | refine blk_drew ?_ | refine blk_alloc ?_ _)); refine blk_far ?_ NB460_459.out _; (with_reducible repeat (first | refine blk_drewN ?_ _ | refine blk_drew ?_ | refine blk_alloc ?_ _)); refine blk_far ?_ NB460_459.out _; (with_reducible repeat (first | refine blk_drewN ?_ _ | refine blk_drew ?_ | refine blk_alloc ?_ _)); refine blk_far ?_ NB460_459.out _; (with_reducible repeat (first | refine blk_drewN ?_ _ | refine blk_drew ?_ | refine blk_alloc ?_ _)); refine blk_far ?_ NB460_459.out _; (with_reducible repeat (first | refine blk_drewN ?_ _ | refine blk_drew ?_ | refine blk_alloc ?_ _)); refine blk_far ?_ NB460_459.out _; (with_reducible repeat (first | refine blk_drewN ?_ _ | refine blk_drew ?_ | refine blk_alloc ?_ _)); exact BK460.out) Try.underlying45 rfl (by kernel_rfl) (.tmp .nil)))) rfl ?_
              exact ⟨_, _, _, _, by first | rfl | (simp [errW_none, errW_some] <;> rfl) | (simp [*, errW_none, errW_some] <;> rfl), by first | exact Kd.R_nil _ _ _ _ _ | exact Kd.N_nil _ _ _ _ _ | exact Kd.V_nil _ _ _ _ _ | exact Kd.Q_nil _ _ _ _ _ | exact Kd.S_nil _ _ _ _ _, by first | exact Kd.R_nil _ _ _ _ _ | exact Kd.N_nil _ _ _ _ _ | exact Kd.V_nil _ _ _ _ _ | exact Kd.Q_nil _ _ _ _ _ | exact Kd.S_nil _ _ _ _ _, by (with_reducible repeat (first | apply Kd.R_alloc | apply Kd.R_drewN | apply Kd.R_drew)); exact Kd.R_mono (Kd.R_far (p := ⟨gb460, 5, none⟩) (Kd.R_far (p := ⟨gb460, 4, none⟩) (Kd.R_far (p := ⟨gb460, 3, none⟩) (Kd.R_far (p := ⟨gb460, 2, none⟩) (Kd.R_far (p := ⟨gb460, 1, none⟩) (Kd.R_far (p := ⟨gb460, 0, none⟩) (Kd.R_far (p := ⟨gb459, 5, none⟩) (Kd.R_far (p := ⟨gb459, 4, none⟩) (Kd.R_far (p := ⟨gb459, 3, none⟩) (Kd.R_far (p := ⟨gb459, 2, none⟩) (Kd.R_far (p := ⟨gb459, 1, none⟩) (Kd.R_far (p := ⟨gb459, 0, none⟩) (Kd.R_types (Kd.R_types HO468.out BK459.out (by decide)) BK460.out (by decide)) (fun _ hk => hk.1.2) (.int .i64 6)) (fun _ hk => hk.1.2) (.bool false)) (fun _ hk => hk.1.2) (.slice none 0 0)) (fun _ hk => hk.1.2) (.string (a0_3.extract (t462 : Int).toNat ((wrap64 (t463 + a1)) : Int).toNat))) (fun _ hk => hk.1.2) (.int .i64 0)) (fun _ hk => hk.1.2) (.slice none 0 0)) (fun _ hk => hk.2) (.int .i64 t464)) (fun _ hk => hk.2) (.bool t465)) (fun _ hk => hk.2) (.slice Ao38 t466.length co38)) (fun _ hk => hk.2) (.string t469)) (fun _ hk => hk.2) (.int .i64 t470)) (fun _ hk => hk.2) (.slice Ao42 t471.length co42)) (fun _ hk => (by simp [Value.ownBlock])), by (with_reducible repeat (first | apply Kd.R_alloc | apply Kd.R_drewN | apply Kd.R_drew)); exact Kd.R_mono (Kd.R_far (p := ⟨gb460, 5, none⟩) (Kd.R_far (p := ⟨gb460, 4, none⟩) (Kd.R_far (p := ⟨gb460, 3, none⟩) (Kd.R_far (p := ⟨gb460, 2, none⟩) (Kd.R_far (p := ⟨gb460, 1, none⟩) (Kd.R_far (p := ⟨gb460, 0, none⟩) (Kd.R_far (p := ⟨gb459, 5, none⟩) (Kd.R_far (p := ⟨gb459, 4, none⟩) (Kd.R_far (p := ⟨gb459, 3, none⟩) (Kd.R_far (p := ⟨gb459, 2, none⟩) (Kd.R_far (p := ⟨gb459, 1, none⟩) (Kd.R_far (p := ⟨gb459, 0, none⟩) (Kd.R_mono (Kd.R_mono HO473.out (fun k_ hk => (⟨hk, hk.1.2⟩ : _ ∧ k_ ≠ gb459))) (fun k_ hk => (⟨hk, hk.1.2⟩ : _ ∧ k_ ≠ gb460))) (fun _ hk => hk.1.2) (.int .i64 6)) (fun _ hk => hk.1.2) (.bool false)) (fun _ hk => hk.1.2) (.slice none 0 0)) (fun _ hk => hk.1.2) (.string (a0_3.extract (t462 : Int).toNat ((wrap64 (t463 + a1)) : Int).toNat))) (fun _ hk => hk.1.2) (.int .i64 0)) (fun _ hk => hk.1.2) (.slice none 0 0)) (fun _ hk => hk.2) (.int .i64 t464)) (fun _ hk => hk.2) (.bool t465)) (fun _ hk => hk.2) (.slice Ao38 t466.length co38)) (fun _ hk => hk.2) (.string t469)) (fun _ hk => hk.2) (.int .i64 t470)) (fun _ hk => hk.2) (.slice Ao42 t471.length co42)) (fun _ hk => ⟨(by simp [Value.ownBlock]), ⟨(by simp [Value.ownBlock]), hk.1.1.1.1.1⟩⟩), by repeat (first | (with_reducible first | exact HB.out | apply below_alloc | apply pw_below_drewN | apply below_drew1 | refine below_set ?_ GE458.out | refine below_set ?_ GE459.out | refine below_set ?_ GE460.out) | exact HB.out)⟩
            · rw [if_neg c24] at H
              exact absurd H (by simp)
          · rw [if_neg c23] at H
            exact absurd H (by simp)
        · rw [if_neg c22] at H
          exact absurd H (by simp)

/-! ### relictref20_Rest: function 45 -/
def relictref20_Rest.f (a0_0 : Int) (a0_1 : Bool) (l0_2 : List Int) (a0_3 : ByteArray) (a0_4 : Int) (l0_5 : List (S45)) : Option (Int × Bool × List Int × ByteArray × Int × (List (S45))) := if a0_0 = 8 then ((relictref20_at.f a0_0 a0_1 l0_2 a0_3 a0_4 l0_5).bind fun t476 => (if 0 ≤ t476 then (if t476 ≤ (a0_3.size : Int) then (some (6, false, ([] : List Int), a0_3.extract (t476 : Int).toNat a0_3.size, 0, ([] : List (S45)))) else (none)) else (none))) else (some (0, false, ([] : List Int), (⟨#[]⟩ : ByteArray), 0, ([] : List (S45))))
set_option maxHeartbeats 8000000 in
set_option maxRecDepth 100000 in
theorem relictref20_Rest.calls (a0_0 : Int) (a0_1 : Bool) (A0_2 : Option Addr) (c0_2 : Nat) (l0_2 : List Int) (a0_3 : ByteArray) (a0_4 : Int) (A0_5 : Option Addr) (c0_5 : Nat) (l0_5 : List (S45)) (r1 : Int) (r2 : Bool) (r3 : List Int) (r4 : ByteArray) (r5 : Int) (r6 : List (S45)) (w : World) (hr0_2 : Kd.C (Kd.int .u32) w A0_2 l0_2.length l0_2) (hc0_2 : l0_2.length ≤ c0_2) (hr0_5 : Kd.C k45 w A0_5 l0_5.length l0_5) (hc0_5 : l0_5.length ≤ c0_5) (h : relictref20_Rest.f a0_0 a0_1 l0_2 a0_3 a0_4 l0_5 = some (r1, r2, r3, r4, r5, r6)) :
    Calls Try.prog 45 #[.agg #[.int .i64 a0_0, .bool a0_1, .slice A0_2 l0_2.length c0_2, .string a0_3, .int .i64 a0_4, .slice A0_5 l0_5.length c0_5]] w fun e w' => ∃ v2_ v5_ : Value, e = .returned (.agg #[.int .i64 r1, .bool r2, v2_, .string r4, .int .i64 r5, v5_]) ∧ Kd.R (Kd.int .u32) 123 w' w.heap.size (fun _ => True) v2_ r3 ∧ Kd.R k45 45 w' w.heap.size (fun k_ => some k_ ≠ (v2_ : Value).ownBlock) v5_ r6 ∧ Below w.heap.size w w' := by
  have hu45 := Try.underlying45
  have HR0_2 := Aside0.mk hr0_2
  have HC0_2 := Aside0.mk hc0_2
  clear hr0_2 hc0_2
  have HR0_5 := Aside0.mk hr0_5
  have HC0_5 := Aside0.mk hc0_5
  clear hr0_5 hc0_5
  have HB := Aside0.mk (Below.refl w.heap.size w)
  have H : (if a0_0 = 8 then ((relictref20_at.f a0_0 a0_1 l0_2 a0_3 a0_4 l0_5).bind fun t476 => (if 0 ≤ t476 then (if t476 ≤ (a0_3.size : Int) then (some (6, false, ([] : List Int), a0_3.extract (t476 : Int).toNat a0_3.size, 0, ([] : List (S45)))) else (none)) else (none))) else (some (0, false, ([] : List Int), (⟨#[]⟩ : ByteArray), 0, ([] : List (S45))))) = some (r1, r2, r3, r4, r5, r6) := h
  clear h
  by_cases c2 : a0_0 = 8
  · rw [if_pos c2] at H
    have c2b0 : (a0_0 == 8) = true := beq_iff_eq.mpr c2
    have c2b1 : (a0_0 != 8) = false := bne_eq_false_iff_eq.mpr c2
    clear c2
    replace H := Option.bind_eq_some_iff.mp H
    obtain ⟨t476, A30, H⟩ := H
    replace H : (if 0 ≤ t476 then (if t476 ≤ (a0_3.size : Int) then (some (6, false, ([] : List Int), a0_3.extract (t476 : Int).toNat a0_3.size, 0, ([] : List (S45)))) else (none)) else (none)) = some (r1, r2, r3, r4, r5, r6) := H
    have A3 := Aside0.mk A30
    clear A30
    by_cases c4 : 0 ≤ t476
    · rw [if_pos c4] at H
      have c4b0 := eq_true c4
      have c4b1 : decide (0 ≤ t476) = true := decide_eq_true c4
      clear c4
      by_cases c5 : t476 ≤ (a0_3.size : Int)
      · rw [if_pos c5] at H
        have c5b0 := eq_true c5
        have c5b1 : decide (t476 ≤ (a0_3.size : Int)) = true := decide_eq_true c5
        clear c5
        simp only [Option.some.injEq, Prod.mk.injEq] at H
        obtain ⟨rfl, rfl, rfl, rfl, rfl, rfl⟩ := H
        go_enter Try.func45, Try.ntmps45
        try go_wp2_with (first | ((with_reducible refine gate_dst (N := 1) rfl ?_); refine box_event ?hg (N := 1) ?hd (cs := #[.int .i64 a0_0, .bool a0_1, .slice A0_2 l0_2.length c0_2, .string a0_3, .int .i64 a0_4, .slice A0_5 l0_5.length c0_5]) (t := 45) ?hr ?_; (case hd => rfl); (case hg => rfl); (case hr => first | (go_simp; done) | (go_simp; rfl)); intro gb474 hg w6 hbox hb; have n0_ := Aside0.mk (below_step (by repeat (first | (with_reducible first | exact HB.out | apply below_alloc | apply pw_below_drewN | apply below_drew1) | exact HB.out)) hb); have n1_ := Aside0.mk (hbox); have n2_ := Aside0.mk ((by rw [hg]; exact (below_size (by repeat (first | (with_reducible first | exact HB.out | apply below_alloc | apply pw_below_drewN | apply below_drew1) | exact HB.out))) : w.heap.size ≤ gb474)); have n3_ := Aside0.mk ((by rw [hg]; exact (below_size (by repeat (first | (with_reducible first | exact HB.out | apply below_alloc | apply pw_below_drewN | apply below_drew1) | exact HB.out))) : w.heap.size ≤ gb474)); clear HB; have HB := n0_; have BK474 := n1_; have GW474 := n2_; have GE474 := n3_; clear n0_ n1_ n2_ n3_; clear hb hbox hg) | ((with_reducible refine gate_dst (N := 2) rfl ?_); refine box_event ?hg (N := 2) ?hd (cs := #[.int .i64 0, .bool false, .slice none 0 0, .string (⟨#[]⟩ : ByteArray), .int .i64 0, .slice none 0 0]) (t := 45) ?hr ?_; (case hd => rfl); (case hg => rfl); (case hr => first | (go_simp; done) | (go_simp; rfl)); intro gb475 hg w7 hbox hb; have n0_ := Aside0.mk (blk_below (g := gb474) (o := .cells #[.int .i64 a0_0, .bool a0_1, .slice A0_2 l0_2.length c0_2, .string a0_3, .int .i64 a0_4, .slice A0_5 l0_5.length c0_5] 45 (0, 0)) (by (with_reducible repeat (first | refine blk_drewN ?_ _ | refine blk_drew ?_ | refine blk_alloc ?_ _)); exact BK474.out) hb); have n1_ := Aside0.mk (below_step (by repeat (first | (with_reducible first | exact HB.out | apply below_alloc | apply pw_below_drewN | apply below_drew1 | refine below_set ?_ GE474.out) | exact HB.out)) hb); have n2_ := Aside0.mk (hbox); have n3_ := Aside0.mk ((by rw [hg]; exact (below_size (by repeat (first | (with_reducible first | exact HB.out | apply below_alloc | apply pw_below_drewN | apply below_drew1 | refine below_set ?_ GE474.out) | exact HB.out))) : w.heap.size ≤ gb475)); have n4_ := Aside0.mk ((by rw [hg]; exact (below_size (by repeat (first | (with_reducible first | exact HB.out | apply below_alloc | apply pw_below_drewN | apply below_drew1 | refine below_set ?_ GE474.out) | exact HB.out))) : w.heap.size ≤ gb475)); have n5_ := Aside0.mk ((by rw [hg]; exact Nat.ne_of_lt (blk_lt (g := gb474) (o := .cells #[.int .i64 a0_0, .bool a0_1, .slice A0_2 l0_2.length c0_2, .string a0_3, .int .i64 a0_4, .slice A0_5 l0_5.length c0_5] 45 (0, 0)) (by (with_reducible repeat (first | refine blk_drewN ?_ _ | refine blk_drew ?_ | refine blk_alloc ?_ _)); exact BK474.out)) : gb474 ≠ gb475)); have n6_ := Aside0.mk ((by rw [hg]; exact Nat.ne_of_gt (blk_lt (g := gb474) (o := .cells #[.int .i64 a0_0, .bool a0_1, .slice A0_2 l0_2.length c0_2, .string a0_3, .int .i64 a0_4, .slice A0_5 l0_5.length c0_5] 45 (0, 0)) (by (with_reducible repeat (first | refine blk_drewN ?_ _ | refine blk_drew ?_ | refine blk_alloc ?_ _)); exact BK474.out)) : gb475 ≠ gb474)); clear BK474; clear HB; have BK474 := n0_; have HB := n1_; have BK475 := n2_; have GW475 := n3_; have GE475 := n4_; have NB474_475 := n5_; have NB475_474 := n6_; clear n0_ n1_ n2_ n3_ n4_ n5_ n6_; clear hb hbox hg; have hnb8 := NB474_475.out; have hnc8 := NB475_474.out; have hcz9_0 : w7.cell? ⟨gb474, 0, none⟩ = some (.int .i64 a0_0) := (blk_cell BK474.out 0).trans rfl; have hcz9_1 : w7.cell? ⟨gb474, 1, none⟩ = some (.bool a0_1) := (blk_cell BK474.out 1).trans rfl; have hcz9_2 : w7.cell? ⟨gb474, 2, none⟩ = some (.slice A0_2 l0_2.length c0_2) := (blk_cell BK474.out 2).trans rfl; have hcz9_3 : w7.cell? ⟨gb474, 3, none⟩ = some (.string a0_3) := (blk_cell BK474.out 3).trans rfl; have hcz9_4 : w7.cell? ⟨gb474, 4, none⟩ = some (.int .i64 a0_4) := (blk_cell BK474.out 4).trans rfl; have hcz9_5 : w7.cell? ⟨gb474, 5, none⟩ = some (.slice A0_5 l0_5.length c0_5) := (blk_cell BK474.out 5).trans rfl; have hfz9_0 := blk_frozen BK474.out 0; have hfz9_1 := blk_frozen BK474.out 1; have hfz9_2 := blk_frozen BK474.out 2; have hfz9_3 := blk_frozen BK474.out 3; have hfz9_4 := blk_frozen BK474.out 4; have hfz9_5 := blk_frozen BK474.out 5))
        have n0_ := Aside0.mk (blk_drew BK474.out)
        have n1_ := Aside0.mk (blk_drew BK475.out)
        have n2_ := Aside0.mk (below_drew1 HB.out)
        clear BK474
        clear BK475
        clear HB
        have BK474 := n0_
        have BK475 := n1_
        have HB := n2_
        clear n0_ n1_ n2_
        refine start_ (n := 7) (S := fun w' => w'.cell? ⟨gb474, 0, none⟩ = some (.int .i64 a0_0) ∧ w'.cell? ⟨gb474, 1, none⟩ = some (.bool a0_1) ∧ w'.cell? ⟨gb474, 2, none⟩ = some (.slice A0_2 l0_2.length c0_2) ∧ w'.cell? ⟨gb474, 3, none⟩ = some (.string a0_3) ∧ w'.cell? ⟨gb474, 4, none⟩ = some (.int .i64 a0_4) ∧ w'.cell? ⟨gb474, 5, none⟩ = some (.slice A0_5 l0_5.length c0_5)) (ds := []) #[false, false, false, false, false, false, false] (by kernel_rfl) rfl rfl ⟨(blk_cell BK474.out 0).trans rfl, (blk_cell BK474.out 1).trans rfl, (blk_cell BK474.out 2).trans rfl, (blk_cell BK474.out 3).trans rfl, (blk_cell BK474.out 4).trans rfl, (blk_cell BK474.out 5).trans rfl⟩ (fun hHeld => ?_)
        generalize w7.drew = w10 at BK474 BK475 HB hHeld ⊢
        refine pure_ (i := 0) (N := some 7) (v := ?_) (a' := ?_) #[true, false, false, false, false, false, false] rfl rfl (by kernel_rfl) (fun _ _ _ h => h) (Or.inl ⟨by rfl, ?_⟩) ?_ ?_
        rotate_left
        · intro w'
          go_simp
          with_reducible rfl
        rotate_left
        · simp only [Act.put, List.setIfInBounds_toArray, List.set_cons_zero, List.set_cons_succ, i64_w, i32_w]
          rfl
        refine take_ (i := 1) (N := some 8) (v := ?_) (a' := ?_) #[true, true, false, false, false, false, false] rfl rfl (by kernel_rfl) (fun _ _ _ h => h) (Or.inl ⟨by rfl, ?_⟩) hHeld ?_ ?_
        rotate_left
        · rintro w' ⟨s0, s1, s2, s3, s4, s5⟩
          go_simp
          with_reducible rfl
        rotate_left
        · simp only [Act.put, List.setIfInBounds_toArray, List.set_cons_zero, List.set_cons_succ, i64_w, i32_w]
          rfl
        refine take_ (i := 2) (N := some 9) (v := ?_) (a' := ?_) #[true, true, true, false, false, false, false] rfl rfl (by kernel_rfl) (fun _ _ _ h => h) (Or.inl ⟨by rfl, ?_⟩) hHeld ?_ ?_
        rotate_left
        · rintro w' ⟨s0, s1, s2, s3, s4, s5⟩
          go_simp
          with_reducible rfl
        rotate_left
        · simp only [Act.put, List.setIfInBounds_toArray, List.set_cons_zero, List.set_cons_succ, i64_w, i32_w]
          rfl
        refine one_ (i := 3) (N := some 10) #[true, true, true, true, false, false, false] rfl rfl (by kernel_rfl) (by decide) (fun K hK => ?_)
        refine goes_ Try.func96 (by kernel_rfl) rfl #[.agg #[.int .i64 a0_0, .bool a0_1, .slice A0_2 l0_2.length c0_2, .string a0_3, .int .i64 a0_4, .slice A0_5 l0_5.length c0_5]] (by rfl) rfl rfl (by (try simp only [List.map_toArray, List.map_cons, List.map_nil]); first | done | rfl | (simp only [List.length_drop, List.length_take]; rfl)) ?_
        with_reducible refine (relictref20_at.calls a0_0 a0_1 _ _ l0_2 a0_3 a0_4 _ _ l0_5 t476 _ ?side1 ?side2 ?side3 ?side4 A3.out).mono ?_
        (case side1 => repeat (first | exact (Kd.C_below HR0_2.out HB.out) | (with_reducible refine Kd.C_alloc ?_ _) | (with_reducible refine Kd.C_drewN ?_ _) | (with_reducible refine Kd.C_drew ?_)))
        (case side2 => exact HC0_2.out)
        (case side3 => repeat (first | exact (Kd.C_below HR0_5.out HB.out) | (with_reducible refine Kd.C_alloc ?_ _) | (with_reducible refine Kd.C_drewN ?_ _) | (with_reducible refine Kd.C_drew ?_)))
        (case side4 => exact HC0_5.out)
        rintro e w11 ⟨rfl, hb⟩
        refine ⟨_, rfl, ?_⟩
        have n0_ := Aside0.mk (blk_below (g := gb474) (o := .cells #[.int .i64 a0_0, .bool a0_1, .slice A0_2 l0_2.length c0_2, .string a0_3, .int .i64 a0_4, .slice A0_5 l0_5.length c0_5] 45 (0, 0)) (by (with_reducible repeat (first | refine blk_drewN ?_ _ | refine blk_drew ?_ | refine blk_alloc ?_ _)); exact BK474.out) hb)
        have n1_ := Aside0.mk (blk_below (g := gb475) (o := .cells #[.int .i64 0, .bool false, .slice none 0 0, .string (⟨#[]⟩ : ByteArray), .int .i64 0, .slice none 0 0] 45 (0, 0)) (by (with_reducible repeat (first | refine blk_drewN ?_ _ | refine blk_drew ?_ | refine blk_alloc ?_ _)); exact BK475.out) hb)
        have n2_ := Aside0.mk (below_step (by repeat (first | (with_reducible first | exact HB.out | apply below_alloc | apply pw_below_drewN | apply below_drew1 | refine below_set ?_ GE474.out | refine below_set ?_ GE475.out) | exact HB.out)) hb)
        clear BK474
        clear BK475
        clear HB
        have BK474 := n0_
        have BK475 := n1_
        have HB := n2_
        clear n0_ n1_ n2_
        (try clear hb)
        (try clear hb2)
        (try clear hk)
        (try clear hi)
        refine hK.out _ _ ⟨(blk_cell BK474.out 0).trans rfl, (blk_cell BK474.out 1).trans rfl, (blk_cell BK474.out 2).trans rfl, (blk_cell BK474.out 3).trans rfl, (blk_cell BK474.out 4).trans rfl, (blk_cell BK474.out 5).trans rfl⟩ (fun hHeld => ?_)
        clear hK K
        refine norm_ (a' := ?_) ?_ ?_
        rotate_left
        · show Act.put _ (some 10) _ = _
          simp only [Act.put, List.setIfInBounds_toArray, List.set_cons_zero, List.set_cons_succ, i64_w, i32_w]
          rfl
        refine pure_ (i := 4) (N := some 11) (v := ?_) (a' := ?_) #[true, true, true, true, true, false, false] rfl rfl (by kernel_rfl) (fun _ _ _ h => h) (Or.inl ⟨by rfl, ?_⟩) ?_ ?_
        rotate_left
        · intro w'
          go_simp
          with_reducible rfl
        rotate_left
        · simp only [Act.put, List.setIfInBounds_toArray, List.set_cons_zero, List.set_cons_succ, i64_w, i32_w]
          rfl
        refine pure_ (i := 5) (N := some 12) (v := ?_) (a' := ?_) #[true, true, true, true, true, true, false] rfl rfl (by kernel_rfl) (fun _ _ _ h => h) (Or.inl ⟨by rfl, ?_⟩) ?_ ?_
        rotate_left
        · intro w'
          go_simp
          with_reducible rfl
        rotate_left
        · simp only [Act.put, List.setIfInBounds_toArray, List.set_cons_zero, List.set_cons_succ, i64_w, i32_w]
          rfl
        refine one_ (i := 6) (N := none) #[true, true, true, true, true, true, true] rfl rfl (by kernel_rfl) (by decide) (fun K hK => ?_)
        have hs12 : w11.cell? ⟨gb475, 0, none⟩ = some (.int .i64 0) := (blk_cell BK475.out 0).trans rfl
        have hfs12 := blk_frozen BK475.out 0
        have hns12_0 := NB474_475.out
        have hms12_0 := NB475_474.out
        have hs13 : w11.cell? ⟨gb475, 1, none⟩ = some (.bool false) := (blk_cell BK475.out 1).trans rfl
        have hfs13 := blk_frozen BK475.out 1
        have hns13_0 := NB474_475.out
        have hms13_0 := NB475_474.out
        have hs14 : w11.cell? ⟨gb475, 2, none⟩ = some (.slice none 0 0) := (blk_cell BK475.out 2).trans rfl
        have hfs14 := blk_frozen BK475.out 2
        have hns14_0 := NB474_475.out
        have hms14_0 := NB475_474.out
        have hs15 : w11.cell? ⟨gb475, 3, none⟩ = some (.string (⟨#[]⟩ : ByteArray)) := (blk_cell BK475.out 3).trans rfl
        have hfs15 := blk_frozen BK475.out 3
        have hns15_0 := NB474_475.out
        have hms15_0 := NB475_474.out
        have hs16 : w11.cell? ⟨gb475, 4, none⟩ = some (.int .i64 0) := (blk_cell BK475.out 4).trans rfl
        have hfs16 := blk_frozen BK475.out 4
        have hns16_0 := NB474_475.out
        have hms16_0 := NB475_474.out
        have hs17 : w11.cell? ⟨gb475, 5, none⟩ = some (.slice none 0 0) := (blk_cell BK475.out 5).trans rfl
        have hfs17 := blk_frozen BK475.out 5
        have hns17_0 := NB474_475.out
        have hms17_0 := NB475_474.out
        refine skip_ (w1 := ?_) (by rfl) rfl ?_ ?_
        rotate_left
        · go_simp
          rfl
        refine hK.out _ _ ⟨((cell_far (p := ⟨gb475, _, none⟩) NB474_475.out _).trans (((cell_far (p := ⟨gb475, _, none⟩) NB474_475.out _).trans (((cell_far (p := ⟨gb475, _, none⟩) NB474_475.out _).trans (((cell_far (p := ⟨gb475, _, none⟩) NB474_475.out _).trans (((cell_far (p := ⟨gb475, _, none⟩) NB474_475.out _).trans (((cell_far (p := ⟨gb475, _, none⟩) NB474_475.out _).trans (hHeld.1)))))))))))), ((cell_far (p := ⟨gb475, _, none⟩) NB474_475.out _).trans (((cell_far (p := ⟨gb475, _, none⟩) NB474_475.out _).trans (((cell_far (p := ⟨gb475, _, none⟩) NB474_475.out _).trans (((cell_far (p := ⟨gb475, _, none⟩) NB474_475.out _).trans (((cell_far (p := ⟨gb475, _, none⟩) NB474_475.out _).trans (((cell_far (p := ⟨gb475, _, none⟩) NB474_475.out _).trans (hHeld.2.1)))))))))))), ((cell_far (p := ⟨gb475, _, none⟩) NB474_475.out _).trans (((cell_far (p := ⟨gb475, _, none⟩) NB474_475.out _).trans (((cell_far (p := ⟨gb475, _, none⟩) NB474_475.out _).trans (((cell_far (p := ⟨gb475, _, none⟩) NB474_475.out _).trans (((cell_far (p := ⟨gb475, _, none⟩) NB474_475.out _).trans (((cell_far (p := ⟨gb475, _, none⟩) NB474_475.out _).trans (hHeld.2.2.1)))))))))))), ((cell_far (p := ⟨gb475, _, none⟩) NB474_475.out _).trans (((cell_far (p := ⟨gb475, _, none⟩) NB474_475.out _).trans (((cell_far (p := ⟨gb475, _, none⟩) NB474_475.out _).trans (((cell_far (p := ⟨gb475, _, none⟩) NB474_475.out _).trans (((cell_far (p := ⟨gb475, _, none⟩) NB474_475.out _).trans (((cell_far (p := ⟨gb475, _, none⟩) NB474_475.out _).trans (hHeld.2.2.2.1)))))))))))), ((cell_far (p := ⟨gb475, _, none⟩) NB474_475.out _).trans (((cell_far (p := ⟨gb475, _, none⟩) NB474_475.out _).trans (((cell_far (p := ⟨gb475, _, none⟩) NB474_475.out _).trans (((cell_far (p := ⟨gb475, _, none⟩) NB474_475.out _).trans (((cell_far (p := ⟨gb475, _, none⟩) NB474_475.out _).trans (((cell_far (p := ⟨gb475, _, none⟩) NB474_475.out _).trans (hHeld.2.2.2.2.1)))))))))))), ((cell_far (p := ⟨gb475, _, none⟩) NB474_475.out _).trans (((cell_far (p := ⟨gb475, _, none⟩) NB474_475.out _).trans (((cell_far (p := ⟨gb475, _, none⟩) NB474_475.out _).trans (((cell_far (p := ⟨gb475, _, none⟩) NB474_475.out _).trans (((cell_far (p := ⟨gb475, _, none⟩) NB474_475.out _).trans (((cell_far (p := ⟨gb475, _, none⟩) NB474_475.out _).trans (hHeld.2.2.2.2.2))))))))))))⟩ (fun hHeld => ?_)
        clear hK K
        refine done_ (by kernel_rfl) ?_
        try go_wp2
        refine bodyPost_ret (results_cell_row rfl _ _ gb475 45 #[.int .i64 6, .bool false, .slice none 0 0, .string (a0_3.extract (t476 : Int).toNat a0_3.size), .int .i64 0, .slice none 0 0] (0, 0) _ rfl (by (with_reducible repeat (first | refine blk_drewN ?_ _ | refine blk_drew ?_ | refine blk_alloc ?_ _)); refine blk_put (cs := #[.int .i64 6, .bool false, .slice none 0 0, .string (a0_3.extract (t476 : Int).toNat a0_3.size), .int .i64 0, .slice none 0 0]) ?_ 5 _ rfl; (with_reducible repeat (first | refine blk_drewN ?_ _ | refine blk_drew ?_ | refine blk_alloc ?_ _)); refine blk_put (cs := #[.int .i64 6, .bool false, .slice none 0 0, .string (a0_3.extract (t476 : Int).toNat a0_3.size), .int .i64 0, .slice none 0 0]) ?_ 4 _ rfl; (with_reducible repeat (first | refine blk_drewN ?_ _ | refine blk_drew ?_ | refine blk_alloc ?_ _)); refine blk_put (cs := #[.int .i64 6, .bool false, .slice none 0 0, .string (⟨#[]⟩ : ByteArray), .int .i64 0, .slice none 0 0]) ?_ 3 _ rfl; (with_reducible repeat (first | refine blk_drewN ?_ _ | refine blk_drew ?_ | refine blk_alloc ?_ _)); refine blk_put (cs := #[.int .i64 6, .bool false, .slice none 0 0, .string (⟨#[]⟩ : ByteArray), .int .i64 0, .slice none 0 0]) ?_ 2 _ rfl; (with_reducible repeat (first | refine blk_drewN ?_ _ | refine blk_drew ?_ | refine blk_alloc ?_ _)); refine blk_put (cs := #[.int .i64 6, .bool false, .slice none 0 0, .string (⟨#[]⟩ : ByteArray), .int .i64 0, .slice none 0 0]) ?_ 1 _ rfl; (with_reducible repeat (first | refine blk_drewN ?_ _ | refine blk_drew ?_ | refine blk_alloc ?_ _)); refine blk_put (cs := #[.int .i64 0, .bool false, .slice none 0 0, .string (⟨#[]⟩ : ByteArray), .int .i64 0, .slice none 0 0]) ?_ 0 _ rfl; (with_reducible repeat (first | refine blk_drewN ?_ _ | refine blk_drew ?_ | refine blk_alloc ?_ _)); exact BK475.out) Try.underlying45 rfl (by kernel_rfl)) rfl ?_
        exact ⟨_, _, by first | rfl | (simp [errW_none, errW_some] <;> rfl) | (simp [*, errW_none, errW_some] <;> rfl), by first | exact Kd.R_nil _ _ _ _ _ | exact Kd.N_nil _ _ _ _ _ | exact Kd.V_nil _ _ _ _ _ | exact Kd.Q_nil _ _ _ _ _ | exact Kd.S_nil _ _ _ _ _, by first | exact Kd.R_nil _ _ _ _ _ | exact Kd.N_nil _ _ _ _ _ | exact Kd.V_nil _ _ _ _ _ | exact Kd.Q_nil _ _ _ _ _ | exact Kd.S_nil _ _ _ _ _, by repeat (first | (with_reducible first | exact HB.out | apply below_alloc | apply pw_below_drewN | apply below_drew1 | refine below_set ?_ GE474.out | refine below_set ?_ GE475.out) | exact HB.out)⟩
      · rw [if_neg c5] at H
        exact absurd H (by simp)
    · rw [if_neg c4] at H
      exact absurd H (by simp)
  · rw [if_neg c2] at H
    have c2b0 : (a0_0 == 8) = false := beq_eq_false_iff_ne.mpr c2
    have c2b1 : (a0_0 != 8) = true := bne_iff_ne.mpr c2
    simp only [Option.some.injEq, Prod.mk.injEq] at H
    obtain ⟨rfl, rfl, rfl, rfl, rfl, rfl⟩ := H
    go_enter Try.func45, Try.ntmps45
    go_wp2_with (first | ((with_reducible refine gate_dst (N := 1) rfl ?_); refine box_event ?hg (N := 1) ?hd (cs := #[.int .i64 a0_0, .bool a0_1, .slice A0_2 l0_2.length c0_2, .string a0_3, .int .i64 a0_4, .slice A0_5 l0_5.length c0_5]) (t := 45) ?hr ?_; (case hd => rfl); (case hg => rfl); (case hr => first | (go_simp; done) | (go_simp; rfl)); intro gb474 hg w18 hbox hb; have n0_ := Aside0.mk (below_step (by repeat (first | (with_reducible first | exact HB.out | apply below_alloc | apply pw_below_drewN | apply below_drew1) | exact HB.out)) hb); have n1_ := Aside0.mk (hbox); have n2_ := Aside0.mk ((by rw [hg]; exact (below_size (by repeat (first | (with_reducible first | exact HB.out | apply below_alloc | apply pw_below_drewN | apply below_drew1) | exact HB.out))) : w.heap.size ≤ gb474)); have n3_ := Aside0.mk ((by rw [hg]; exact (below_size (by repeat (first | (with_reducible first | exact HB.out | apply below_alloc | apply pw_below_drewN | apply below_drew1) | exact HB.out))) : w.heap.size ≤ gb474)); clear HB; have HB := n0_; have BK474 := n1_; have GW474 := n2_; have GE474 := n3_; clear n0_ n1_ n2_ n3_; clear hb hbox hg) | ((with_reducible refine gate_dst (N := 2) rfl ?_); refine box_event ?hg (N := 2) ?hd (cs := #[.int .i64 0, .bool false, .slice none 0 0, .string (⟨#[]⟩ : ByteArray), .int .i64 0, .slice none 0 0]) (t := 45) ?hr ?_; (case hd => rfl); (case hg => rfl); (case hr => first | (go_simp; done) | (go_simp; rfl)); intro gb475 hg w19 hbox hb; have n0_ := Aside0.mk (blk_below (g := gb474) (o := .cells #[.int .i64 a0_0, .bool a0_1, .slice A0_2 l0_2.length c0_2, .string a0_3, .int .i64 a0_4, .slice A0_5 l0_5.length c0_5] 45 (0, 0)) (by (with_reducible repeat (first | refine blk_drewN ?_ _ | refine blk_drew ?_ | refine blk_alloc ?_ _)); exact BK474.out) hb); have n1_ := Aside0.mk (below_step (by repeat (first | (with_reducible first | exact HB.out | apply below_alloc | apply pw_below_drewN | apply below_drew1 | refine below_set ?_ GE474.out) | exact HB.out)) hb); have n2_ := Aside0.mk (hbox); have n3_ := Aside0.mk ((by rw [hg]; exact (below_size (by repeat (first | (with_reducible first | exact HB.out | apply below_alloc | apply pw_below_drewN | apply below_drew1 | refine below_set ?_ GE474.out) | exact HB.out))) : w.heap.size ≤ gb475)); have n4_ := Aside0.mk ((by rw [hg]; exact (below_size (by repeat (first | (with_reducible first | exact HB.out | apply below_alloc | apply pw_below_drewN | apply below_drew1 | refine below_set ?_ GE474.out) | exact HB.out))) : w.heap.size ≤ gb475)); have n5_ := Aside0.mk ((by rw [hg]; exact Nat.ne_of_lt (blk_lt (g := gb474) (o := .cells #[.int .i64 a0_0, .bool a0_1, .slice A0_2 l0_2.length c0_2, .string a0_3, .int .i64 a0_4, .slice A0_5 l0_5.length c0_5] 45 (0, 0)) (by (with_reducible repeat (first | refine blk_drewN ?_ _ | refine blk_drew ?_ | refine blk_alloc ?_ _)); exact BK474.out)) : gb474 ≠ gb475)); have n6_ := Aside0.mk ((by rw [hg]; exact Nat.ne_of_gt (blk_lt (g := gb474) (o := .cells #[.int .i64 a0_0, .bool a0_1, .slice A0_2 l0_2.length c0_2, .string a0_3, .int .i64 a0_4, .slice A0_5 l0_5.length c0_5] 45 (0, 0)) (by (with_reducible repeat (first | refine blk_drewN ?_ _ | refine blk_drew ?_ | refine blk_alloc ?_ _)); exact BK474.out)) : gb475 ≠ gb474)); clear BK474; clear HB; have BK474 := n0_; have HB := n1_; have BK475 := n2_; have GW475 := n3_; have GE475 := n4_; have NB474_475 := n5_; have NB475_474 := n6_; clear n0_ n1_ n2_ n3_ n4_ n5_ n6_; clear hb hbox hg; have hnb20 := NB474_475.out; have hnc20 := NB475_474.out; have hcz21_0 : w19.cell? ⟨gb474, 0, none⟩ = some (.int .i64 a0_0) := (blk_cell BK474.out 0).trans rfl; have hcz21_1 : w19.cell? ⟨gb474, 1, none⟩ = some (.bool a0_1) := (blk_cell BK474.out 1).trans rfl; have hcz21_2 : w19.cell? ⟨gb474, 2, none⟩ = some (.slice A0_2 l0_2.length c0_2) := (blk_cell BK474.out 2).trans rfl; have hcz21_3 : w19.cell? ⟨gb474, 3, none⟩ = some (.string a0_3) := (blk_cell BK474.out 3).trans rfl; have hcz21_4 : w19.cell? ⟨gb474, 4, none⟩ = some (.int .i64 a0_4) := (blk_cell BK474.out 4).trans rfl; have hcz21_5 : w19.cell? ⟨gb474, 5, none⟩ = some (.slice A0_5 l0_5.length c0_5) := (blk_cell BK474.out 5).trans rfl; have hfz21_0 := blk_frozen BK474.out 0; have hfz21_1 := blk_frozen BK474.out 1; have hfz21_2 := blk_frozen BK474.out 2; have hfz21_3 := blk_frozen BK474.out 3; have hfz21_4 := blk_frozen BK474.out 4; have hfz21_5 := blk_frozen BK474.out 5; have hcz22_0 : w19.cell? ⟨gb475, 0, none⟩ = some (.int .i64 0) := (blk_cell BK475.out 0).trans rfl; have hcz22_1 : w19.cell? ⟨gb475, 1, none⟩ = some (.bool false) := (blk_cell BK475.out 1).trans rfl; have hcz22_2 : w19.cell? ⟨gb475, 2, none⟩ = some (.slice none 0 0) := (blk_cell BK475.out 2).trans rfl; have hcz22_3 : w19.cell? ⟨gb475, 3, none⟩ = some (.string (⟨#[]⟩ : ByteArray)) := (blk_cell BK475.out 3).trans rfl; have hcz22_4 : w19.cell? ⟨gb475, 4, none⟩ = some (.int .i64 0) := (blk_cell BK475.out 4).trans rfl; have hcz22_5 : w19.cell? ⟨gb475, 5, none⟩ = some (.slice none 0 0) := (blk_cell BK475.out 5).trans rfl; have hfz22_0 := blk_frozen BK475.out 0; have hfz22_1 := blk_frozen BK475.out 1; have hfz22_2 := blk_frozen BK475.out 2; have hfz22_3 := blk_frozen BK475.out 3; have hfz22_4 := blk_frozen BK475.out 4; have hfz22_5 := blk_frozen BK475.out 5))
    refine bodyPost_ret (results_cell_row rfl _ _ gb475 45 #[.int .i64 0, .bool false, .slice none 0 0, .string (⟨#[]⟩ : ByteArray), .int .i64 0, .slice none 0 0] (0, 0) _ rfl (by (with_reducible repeat (first | refine blk_drewN ?_ _ | refine blk_drew ?_ | refine blk_alloc ?_ _)); refine blk_put (cs := #[.int .i64 0, .bool false, .slice none 0 0, .string (⟨#[]⟩ : ByteArray), .int .i64 0, .slice none 0 0]) ?_ 5 _ rfl; (with_reducible repeat (first | refine blk_drewN ?_ _ | refine blk_drew ?_ | refine blk_alloc ?_ _)); refine blk_put (cs := #[.int .i64 0, .bool false, .slice none 0 0, .string (⟨#[]⟩ : ByteArray), .int .i64 0, .slice none 0 0]) ?_ 4 _ rfl; (with_reducible repeat (first | refine blk_drewN ?_ _ | refine blk_drew ?_ | refine blk_alloc ?_ _)); refine blk_put (cs := #[.int .i64 0, .bool false, .slice none 0 0, .string (⟨#[]⟩ : ByteArray), .int .i64 0, .slice none 0 0]) ?_ 3 _ rfl; (with_reducible repeat (first | refine blk_drewN ?_ _ | refine blk_drew ?_ | refine blk_alloc ?_ _)); refine blk_put (cs := #[.int .i64 0, .bool false, .slice none 0 0, .string (⟨#[]⟩ : ByteArray), .int .i64 0, .slice none 0 0]) ?_ 2 _ rfl; (with_reducible repeat (first | refine blk_drewN ?_ _ | refine blk_drew ?_ | refine blk_alloc ?_ _)); refine blk_put (cs := #[.int .i64 0, .bool false, .slice none 0 0, .string (⟨#[]⟩ : ByteArray), .int .i64 0, .slice none 0 0]) ?_ 1 _ rfl; (with_reducible repeat (first | refine blk_drewN ?_ _ | refine blk_drew ?_ | refine blk_alloc ?_ _)); refine blk_put (cs := #[.int .i64 0, .bool false, .slice none 0 0, .string (⟨#[]⟩ : ByteArray), .int .i64 0, .slice none 0 0]) ?_ 0 _ rfl; (with_reducible repeat (first | refine blk_drewN ?_ _ | refine blk_drew ?_ | refine blk_alloc ?_ _)); exact BK475.out) Try.underlying45 rfl (by kernel_rfl)) rfl ?_
    exact ⟨_, _, by first | rfl | (simp [errW_none, errW_some] <;> rfl) | (simp [*, errW_none, errW_some] <;> rfl), by first | exact Kd.R_nil _ _ _ _ _ | exact Kd.N_nil _ _ _ _ _ | exact Kd.V_nil _ _ _ _ _ | exact Kd.Q_nil _ _ _ _ _ | exact Kd.S_nil _ _ _ _ _, by first | exact Kd.R_nil _ _ _ _ _ | exact Kd.N_nil _ _ _ _ _ | exact Kd.V_nil _ _ _ _ _ | exact Kd.Q_nil _ _ _ _ _ | exact Kd.S_nil _ _ _ _ _, by repeat (first | (with_reducible first | exact HB.out | apply below_alloc | apply pw_below_drewN | apply below_drew1 | refine below_set ?_ GE474.out | refine below_set ?_ GE475.out) | exact HB.out)⟩

-- NOT PRINTED: function 7 (relictlaw20_MatchAll)

end Go.Proofs.Ythdmacdeefohkaa.PMa
