-- Printed by the kit's print.py from a list of bodies that this session turned in four places; parts of it are this session's own.
import Derived.Test.YthdmacdeefohkaaPMa0
import Derived.Test.YthdmacdeefohkaaPMa4
namespace Go.Proofs.Ythdmacdeefohkaa.PMa
open Go.RowKit Go.Proofs.YthdmacdeefohkaaW.PrintWords Go.Proofs.YthdmacdeefohkaaW.PrintLast Go.Proofs.YthdmacdeefohkaaW.PrintMore
attribute [local go_sem] max2_int min2_int max_two min_two max_three min_three max_four min_four   -- for this text's walks alone
set_option linter.unusedVariables false
set_option linter.unusedSimpArgs false

/-! ### relictlaw00_SameTerm: function 33 -/
mutual
def relictlaw00_SameTerm.j0 : Nat → Bool → Int → Bool → List Int → ByteArray → Int → List (S45) → Int → Bool → List Int → ByteArray → Int → List (S45) → Option (Bool)
  | 0, _, _, _, _, _, _, _, _, _, _, _, _, _ => none
  | k + 1, x41, x255000, x255001, x255002, x255003, x255004, x255005, x256000, x256001, x256002, x256003, x256004, x256005 => if x41 = true then (some false) else (relictlaw00_SameTerm.l0 k 0 x255000 x255001 x255002 x255003 x255004 x255005 x256000 x256001 x256002 x256003 x256004 x256005)
def relictlaw00_SameTerm.l0 : Nat → Int → Int → Bool → List Int → ByteArray → Int → List (S45) → Int → Bool → List Int → ByteArray → Int → List (S45) → Option (Bool)
  | 0, _, _, _, _, _, _, _, _, _, _, _, _, _ => none
  | k + 1, x5, x255000, x255001, x255002, x255003, x255004, x255005, x256000, x256001, x256002, x256003, x256004, x256005 => if x5 < (x255005.length : Int) then (if 0 ≤ x5 then (if x5 < (x256005.length : Int) then ((relictlaw00_SameTerm.f k ((rd_T45 x255005 x5).f0) ((rd_T45 x255005 x5).f1.f0) ((rd_T45 x255005 x5).f1.f1) ((rd_T45 x255005 x5).f2) ((rd_T45 x255005 x5).f3) ((rd_T45 x255005 x5).f4) ((rd_T45 x256005 x5).f0) ((rd_T45 x256005 x5).f1.f0) ((rd_T45 x256005 x5).f1.f1) ((rd_T45 x256005 x5).f2) ((rd_T45 x256005 x5).f3) ((rd_T45 x256005 x5).f4)).bind fun t259 => (if t259 = true then (relictlaw00_SameTerm.l0 k (wrap64 (x5 + 1)) x255000 x255001 x255002 x255003 x255004 x255005 x256000 x256001 x256002 x256003 x256004 x256005) else (some false))) else (none)) else (none)) else (some true)
def relictlaw00_SameTerm.f : Nat → Int → Bool → List Int → ByteArray → Int → List (S45) → Int → Bool → List Int → ByteArray → Int → List (S45) → Option (Bool)
  | 0, _, _, _, _, _, _, _, _, _, _, _, _ => none
  | k + 1, a0_0, a0_1, l0_2, a0_3, a0_4, l0_5, a1_0, a1_1, l1_2, a1_3, a1_4, l1_5 => if a0_0 = a1_0 then ((relictlaw00_SameNum.f k a0_1 l0_2 a1_1 l1_2).bind fun t256 => (if t256 = true then (if a0_3.toList = a1_3.toList then (if a0_4 = a1_4 then (relictlaw00_SameTerm.j0 k ((l0_5.length : Int) != (l1_5.length : Int)) a0_0 a0_1 l0_2 a0_3 a0_4 l0_5 a1_0 a1_1 l1_2 a1_3 a1_4 l1_5) else (relictlaw00_SameTerm.j0 k true a0_0 a0_1 l0_2 a0_3 a0_4 l0_5 a1_0 a1_1 l1_2 a1_3 a1_4 l1_5)) else (relictlaw00_SameTerm.j0 k true a0_0 a0_1 l0_2 a0_3 a0_4 l0_5 a1_0 a1_1 l1_2 a1_3 a1_4 l1_5)) else (relictlaw00_SameTerm.j0 k true a0_0 a0_1 l0_2 a0_3 a0_4 l0_5 a1_0 a1_1 l1_2 a1_3 a1_4 l1_5))) else (relictlaw00_SameTerm.j0 k true a0_0 a0_1 l0_2 a0_3 a0_4 l0_5 a1_0 a1_1 l1_2 a1_3 a1_4 l1_5)
end
theorem relictlaw00_SameTerm.mono_l : ∀ k, (∀ y0 y1 y2 y3 y4 y5 y6 y7 y8 y9 y10 y11, LeO (relictlaw00_SameTerm.f k y0 y1 y2 y3 y4 y5 y6 y7 y8 y9 y10 y11) (relictlaw00_SameTerm.f (k + 1) y0 y1 y2 y3 y4 y5 y6 y7 y8 y9 y10 y11)) ∧ (∀ y0 y1 y2 y3 y4 y5 y6 y7 y8 y9 y10 y11 y12, LeO (relictlaw00_SameTerm.j0 k y0 y1 y2 y3 y4 y5 y6 y7 y8 y9 y10 y11 y12) (relictlaw00_SameTerm.j0 (k + 1) y0 y1 y2 y3 y4 y5 y6 y7 y8 y9 y10 y11 y12)) ∧ (∀ y0 y1 y2 y3 y4 y5 y6 y7 y8 y9 y10 y11 y12, LeO (relictlaw00_SameTerm.l0 k y0 y1 y2 y3 y4 y5 y6 y7 y8 y9 y10 y11 y12) (relictlaw00_SameTerm.l0 (k + 1) y0 y1 y2 y3 y4 y5 y6 y7 y8 y9 y10 y11 y12))
  | 0 => ⟨fun _ _ _ _ _ _ _ _ _ _ _ _ r h => by simp [relictlaw00_SameTerm.f] at h, fun _ _ _ _ _ _ _ _ _ _ _ _ _ r h => by simp [relictlaw00_SameTerm.j0] at h, fun _ _ _ _ _ _ _ _ _ _ _ _ _ r h => by simp [relictlaw00_SameTerm.l0] at h⟩
  | k + 1 => by
    obtain ⟨ih0, ih1, ih2⟩ := relictlaw00_SameTerm.mono_l k
    refine ⟨?_, ?_, ?_⟩
    · intro y0 y1 y2 y3 y4 y5 y6 y7 y8 y9 y10 y11
      unfold relictlaw00_SameTerm.f
      repeat' first
      | (with_reducible exact ih0 _ _ _ _ _ _ _ _ _ _ _ _)
      | (with_reducible exact ih1 _ _ _ _ _ _ _ _ _ _ _ _ _)
      | (with_reducible exact ih2 _ _ _ _ _ _ _ _ _ _ _ _ _)
      | (with_reducible exact relictlaw00_SameNum.mono _ _ _ _ _)
      | (with_reducible exact LeO.refl _)
      | (with_reducible exact LeO.none _)
      | (with_reducible refine LeO.ite ?_ ?_)
      | (with_reducible refine LeO.bind ?_ (fun _ => ?_))
      | exact ih0 _ _ _ _ _ _ _ _ _ _ _ _
      | exact ih1 _ _ _ _ _ _ _ _ _ _ _ _ _
      | exact ih2 _ _ _ _ _ _ _ _ _ _ _ _ _
      | exact relictlaw00_SameNum.mono _ _ _ _ _
      | exact LeO.none _
      | refine LeO.ite ?_ ?_
      | refine LeO.bind ?_ (fun _ => ?_)
    · intro y0 y1 y2 y3 y4 y5 y6 y7 y8 y9 y10 y11 y12
      unfold relictlaw00_SameTerm.j0
      repeat' first
      | (with_reducible exact ih0 _ _ _ _ _ _ _ _ _ _ _ _)
      | (with_reducible exact ih1 _ _ _ _ _ _ _ _ _ _ _ _ _)
      | (with_reducible exact ih2 _ _ _ _ _ _ _ _ _ _ _ _ _)
      | (with_reducible exact relictlaw00_SameNum.mono _ _ _ _ _)
      | (with_reducible exact LeO.refl _)
      | (with_reducible exact LeO.none _)
      | (with_reducible refine LeO.ite ?_ ?_)
      | (with_reducible refine LeO.bind ?_ (fun _ => ?_))
      | exact ih0 _ _ _ _ _ _ _ _ _ _ _ _
      | exact ih1 _ _ _ _ _ _ _ _ _ _ _ _ _
      | exact ih2 _ _ _ _ _ _ _ _ _ _ _ _ _
      | exact relictlaw00_SameNum.mono _ _ _ _ _
      | exact LeO.none _
      | refine LeO.ite ?_ ?_
      | refine LeO.bind ?_ (fun _ => ?_)
    · intro y0 y1 y2 y3 y4 y5 y6 y7 y8 y9 y10 y11 y12
      unfold relictlaw00_SameTerm.l0
      repeat' first
      | (with_reducible exact ih0 _ _ _ _ _ _ _ _ _ _ _ _)
      | (with_reducible exact ih1 _ _ _ _ _ _ _ _ _ _ _ _ _)
      | (with_reducible exact ih2 _ _ _ _ _ _ _ _ _ _ _ _ _)
      | (with_reducible exact relictlaw00_SameNum.mono _ _ _ _ _)
      | (with_reducible exact LeO.refl _)
      | (with_reducible exact LeO.none _)
      | (with_reducible refine LeO.ite ?_ ?_)
      | (with_reducible refine LeO.bind ?_ (fun _ => ?_))
      | exact ih0 _ _ _ _ _ _ _ _ _ _ _ _
      | exact ih1 _ _ _ _ _ _ _ _ _ _ _ _ _
      | exact ih2 _ _ _ _ _ _ _ _ _ _ _ _ _
      | exact relictlaw00_SameNum.mono _ _ _ _ _
      | exact LeO.none _
      | refine LeO.ite ?_ ?_
      | refine LeO.bind ?_ (fun _ => ?_)
theorem relictlaw00_SameTerm.mono : ∀ a0 a1 a2 a3 a4 a5 a6 a7 a8 a9 a10 a11 k, LeO (relictlaw00_SameTerm.f k a0 a1 a2 a3 a4 a5 a6 a7 a8 a9 a10 a11) (relictlaw00_SameTerm.f (k + 1) a0 a1 a2 a3 a4 a5 a6 a7 a8 a9 a10 a11) := by
  intro a0 a1 a2 a3 a4 a5 a6 a7 a8 a9 a10 a11 k
  obtain ⟨ih0, ih1, ih2⟩ := relictlaw00_SameTerm.mono_l k
  exact ih0 a0 a1 a2 a3 a4 a5 a6 a7 a8 a9 a10 a11
def relictlaw00_SameTerm.T6 : Bool × List (List Nat × List Nat) := (true, [([], []), ([0], [0]), ([], []), ([1, 2], [1, 2]), ([3], [3]), ([], []), ([5], [5]), ([], []), ([6, 7], [6, 7]), ([8], [8]), ([4, 9], [4, 9]), ([10], [10])])
def relictlaw00_SameTerm.B6 : List Nat := [0, 1, 0, 7, 15, 0, 32, 0, 224, 480, 1023, 2047]
theorem relictlaw00_SameTerm.tab6 : rtab .any (opsOf Try.f33 6) = relictlaw00_SameTerm.T6 := by kernel_rfl
theorem relictlaw00_SameTerm.bits6 : waitsOk relictlaw00_SameTerm.T6.2 relictlaw00_SameTerm.B6 = true := by kernel_rfl
set_option maxHeartbeats 8000000 in
set_option maxRecDepth 100000 in
theorem relictlaw00_SameTerm.calls (k : Nat) : ∀ (a0_0 : Int) (a0_1 : Bool) (A0_2 : Option Addr) (c0_2 : Nat) (l0_2 : List Int) (a0_3 : ByteArray) (a0_4 : Int) (A0_5 : Option Addr) (c0_5 : Nat) (l0_5 : List (S45)) (a1_0 : Int) (a1_1 : Bool) (A1_2 : Option Addr) (c1_2 : Nat) (l1_2 : List Int) (a1_3 : ByteArray) (a1_4 : Int) (A1_5 : Option Addr) (c1_5 : Nat) (l1_5 : List (S45)) (r : Bool) (w : World) (hr0_2 : Kd.C (Kd.int .u32) w A0_2 l0_2.length l0_2) (hc0_2 : l0_2.length ≤ c0_2) (hr0_5 : Kd.C k45 w A0_5 l0_5.length l0_5) (hc0_5 : l0_5.length ≤ c0_5) (hr1_2 : Kd.C (Kd.int .u32) w A1_2 l1_2.length l1_2) (hc1_2 : l1_2.length ≤ c1_2) (hr1_5 : Kd.C k45 w A1_5 l1_5.length l1_5) (hc1_5 : l1_5.length ≤ c1_5) (h : relictlaw00_SameTerm.f k a0_0 a0_1 l0_2 a0_3 a0_4 l0_5 a1_0 a1_1 l1_2 a1_3 a1_4 l1_5 = some r),
    Calls Try.prog 33 #[.agg #[.int .i64 a0_0, .bool a0_1, .slice A0_2 l0_2.length c0_2, .string a0_3, .int .i64 a0_4, .slice A0_5 l0_5.length c0_5], .agg #[.int .i64 a1_0, .bool a1_1, .slice A1_2 l1_2.length c1_2, .string a1_3, .int .i64 a1_4, .slice A1_5 l1_5.length c1_5]] w fun e w' => e = .returned (.bool r) ∧ Below w.heap.size w w' := by
  induction k using Nat.strongRecOn with
  | _ k ih =>
  intro a0_0 a0_1 A0_2 c0_2 l0_2 a0_3 a0_4 A0_5 c0_5 l0_5 a1_0 a1_1 A1_2 c1_2 l1_2 a1_3 a1_4 A1_5 c1_5 l1_5 r w hr0_2 hc0_2 hr0_5 hc0_5 hr1_2 hc1_2 hr1_5 hc1_5 h
  cases k with
  | zero => exact absurd h (by simp [relictlaw00_SameTerm.f])
  | succ k =>
  simp only [relictlaw00_SameTerm.f] at h
  have hu45 := Try.underlying45
  have hu42 := Try.underlying42
  have HR0_2 := Aside0.mk hr0_2
  have HC0_2 := Aside0.mk hc0_2
  clear hr0_2 hc0_2
  have HR0_5 := Aside0.mk hr0_5
  have HC0_5 := Aside0.mk hc0_5
  clear hr0_5 hc0_5
  have HR1_2 := Aside0.mk hr1_2
  have HC1_2 := Aside0.mk hc1_2
  clear hr1_2 hc1_2
  have HR1_5 := Aside0.mk hr1_5
  have HC1_5 := Aside0.mk hc1_5
  clear hr1_5 hc1_5
  have HB := Aside0.mk (Below.refl w.heap.size w)
  have H : (if a0_0 = a1_0 then ((relictlaw00_SameNum.f k a0_1 l0_2 a1_1 l1_2).bind fun t256 => (if t256 = true then (if a0_3.toList = a1_3.toList then (if a0_4 = a1_4 then (relictlaw00_SameTerm.j0 k ((l0_5.length : Int) != (l1_5.length : Int)) a0_0 a0_1 l0_2 a0_3 a0_4 l0_5 a1_0 a1_1 l1_2 a1_3 a1_4 l1_5) else (relictlaw00_SameTerm.j0 k true a0_0 a0_1 l0_2 a0_3 a0_4 l0_5 a1_0 a1_1 l1_2 a1_3 a1_4 l1_5)) else (relictlaw00_SameTerm.j0 k true a0_0 a0_1 l0_2 a0_3 a0_4 l0_5 a1_0 a1_1 l1_2 a1_3 a1_4 l1_5)) else (relictlaw00_SameTerm.j0 k true a0_0 a0_1 l0_2 a0_3 a0_4 l0_5 a1_0 a1_1 l1_2 a1_3 a1_4 l1_5))) else (relictlaw00_SameTerm.j0 k true a0_0 a0_1 l0_2 a0_3 a0_4 l0_5 a1_0 a1_1 l1_2 a1_3 a1_4 l1_5)) = some r := h
  clear h
  have HC3 := Aside0.mk H
  clear H
  go_enter Try.func33, Try.ntmps33
  go_upto_region 1 with (first | ((with_reducible refine gate_dst (N := 2) rfl ?_); (try (refine gate_guard (by rfl) ?_; dsimp only)); refine box_event ?hg (N := 2) ?hd (cs := #[.int .i64 a0_0, .bool a0_1, .slice A0_2 l0_2.length c0_2, .string a0_3, .int .i64 a0_4, .slice A0_5 l0_5.length c0_5]) (t := 45) ?hr ?_; (case hd => rfl); (case hg => rfl); (case hr => first | (go_simp; done) | (go_simp; rfl)); intro gb254 hg w4 hbox hb; have n0_ := Aside0.mk (below_step (by repeat (first | (with_reducible first | exact HB.out | apply below_alloc | apply pw_below_drewN | apply below_drew1) | exact HB.out)) hb); have n1_ := Aside0.mk (hbox); have n2_ := Aside0.mk ((by rw [hg]; exact (below_size (by repeat (first | (with_reducible first | exact HB.out | apply below_alloc | apply pw_below_drewN | apply below_drew1) | exact HB.out))) : w.heap.size ≤ gb254)); have n3_ := Aside0.mk ((by rw [hg]; exact (below_size (by repeat (first | (with_reducible first | exact HB.out | apply below_alloc | apply pw_below_drewN | apply below_drew1) | exact HB.out))) : w.heap.size ≤ gb254)); clear HB; have HB := n0_; have BK254 := n1_; have GW254 := n2_; have GE254 := n3_; clear n0_ n1_ n2_ n3_; clear hb hbox hg) | ((with_reducible refine gate_dst (N := 3) rfl ?_); (try (refine gate_guard (by rfl) ?_; dsimp only)); refine box_event ?hg (N := 3) ?hd (cs := #[.int .i64 a1_0, .bool a1_1, .slice A1_2 l1_2.length c1_2, .string a1_3, .int .i64 a1_4, .slice A1_5 l1_5.length c1_5]) (t := 45) ?hr ?_; (case hd => rfl); (case hg => rfl); (case hr => first | (go_simp; done) | (go_simp; rfl)); intro gb255 hg w5 hbox hb; have n0_ := Aside0.mk (blk_below (g := gb254) (o := .cells #[.int .i64 a0_0, .bool a0_1, .slice A0_2 l0_2.length c0_2, .string a0_3, .int .i64 a0_4, .slice A0_5 l0_5.length c0_5] 45 (0, 0)) (by (with_reducible repeat (first | refine blk_drewN ?_ _ | refine blk_drew ?_ | refine blk_alloc ?_ _)); exact BK254.out) hb); have n1_ := Aside0.mk (below_step (by repeat (first | (with_reducible first | exact HB.out | apply below_alloc | apply pw_below_drewN | apply below_drew1 | refine below_set ?_ GE254.out) | exact HB.out)) hb); have n2_ := Aside0.mk (hbox); have n3_ := Aside0.mk ((by rw [hg]; exact (below_size (by repeat (first | (with_reducible first | exact HB.out | apply below_alloc | apply pw_below_drewN | apply below_drew1 | refine below_set ?_ GE254.out) | exact HB.out))) : w.heap.size ≤ gb255)); have n4_ := Aside0.mk ((by rw [hg]; exact (below_size (by repeat (first | (with_reducible first | exact HB.out | apply below_alloc | apply pw_below_drewN | apply below_drew1 | refine below_set ?_ GE254.out) | exact HB.out))) : w.heap.size ≤ gb255)); have n5_ := Aside0.mk ((by rw [hg]; exact Nat.ne_of_lt (blk_lt (g := gb254) (o := .cells #[.int .i64 a0_0, .bool a0_1, .slice A0_2 l0_2.length c0_2, .string a0_3, .int .i64 a0_4, .slice A0_5 l0_5.length c0_5] 45 (0, 0)) (by (with_reducible repeat (first | refine blk_drewN ?_ _ | refine blk_drew ?_ | refine blk_alloc ?_ _)); exact BK254.out)) : gb254 ≠ gb255)); have n6_ := Aside0.mk ((by rw [hg]; exact Nat.ne_of_gt (blk_lt (g := gb254) (o := .cells #[.int .i64 a0_0, .bool a0_1, .slice A0_2 l0_2.length c0_2, .string a0_3, .int .i64 a0_4, .slice A0_5 l0_5.length c0_5] 45 (0, 0)) (by (with_reducible repeat (first | refine blk_drewN ?_ _ | refine blk_drew ?_ | refine blk_alloc ?_ _)); exact BK254.out)) : gb255 ≠ gb254)); clear BK254; clear HB; have BK254 := n0_; have HB := n1_; have BK255 := n2_; have GW255 := n3_; have GE255 := n4_; have NB254_255 := n5_; have NB255_254 := n6_; clear n0_ n1_ n2_ n3_ n4_ n5_ n6_; clear hb hbox hg))
  (try simp only [Act.put, List.setIfInBounds_toArray, List.set_cons_zero, List.set_cons_succ])
  go_cut [41] (fun v41 wc => ∃ (kq : Nat) (x41_2 : Bool), v41 = .bool x41_2 ∧ Aside0 (relictlaw00_SameTerm.j0 kq x41_2 a0_0 a0_1 l0_2 a0_3 a0_4 l0_5 a1_0 a1_1 l1_2 a1_3 a1_4 l1_5 = some r) ∧ Aside0 (kq ≤ k) ∧ Aside0 (wc.heap[gb254]? = some (.cells #[.int .i64 a0_0, .bool a0_1, (.slice A0_2 l0_2.length c0_2), .string a0_3, .int .i64 a0_4, (.slice A0_5 l0_5.length c0_5)] 45 (0, 0))) ∧ Aside0 (wc.heap[gb255]? = some (.cells #[.int .i64 a1_0, .bool a1_1, (.slice A1_2 l1_2.length c1_2), .string a1_3, .int .i64 a1_4, (.slice A1_5 l1_5.length c1_5)] 45 (0, 0))) ∧ Aside0 (Below w.heap.size w wc))
  case first =>
    have H := HC3.out
    clear HC3
    by_cases c6 : a0_0 = a1_0
    · rw [if_pos c6] at H
      have c6b0 : (a0_0 == a1_0) = true := beq_iff_eq.mpr c6
      have c6b1 : (a0_0 != a1_0) = false := bne_eq_false_iff_eq.mpr c6
      clear c6
      (first | rw [c6b0] | (simp only [i64_w, i32_w]; rw [c6b0]) | skip)
      replace H := Option.bind_eq_some_iff.mp H
      obtain ⟨t256, A70, H⟩ := H
      replace H : (if t256 = true then (if a0_3.toList = a1_3.toList then (if a0_4 = a1_4 then (relictlaw00_SameTerm.j0 k ((l0_5.length : Int) != (l1_5.length : Int)) a0_0 a0_1 l0_2 a0_3 a0_4 l0_5 a1_0 a1_1 l1_2 a1_3 a1_4 l1_5) else (relictlaw00_SameTerm.j0 k true a0_0 a0_1 l0_2 a0_3 a0_4 l0_5 a1_0 a1_1 l1_2 a1_3 a1_4 l1_5)) else (relictlaw00_SameTerm.j0 k true a0_0 a0_1 l0_2 a0_3 a0_4 l0_5 a1_0 a1_1 l1_2 a1_3 a1_4 l1_5)) else (relictlaw00_SameTerm.j0 k true a0_0 a0_1 l0_2 a0_3 a0_4 l0_5 a1_0 a1_1 l1_2 a1_3 a1_4 l1_5)) = some r := H
      have A7 := Aside0.mk A70
      clear A70
      by_cases c8 : t256 = true
      · subst c8
        have H1 : (if a0_3.toList = a1_3.toList then (if a0_4 = a1_4 then (relictlaw00_SameTerm.j0 k ((l0_5.length : Int) != (l1_5.length : Int)) a0_0 a0_1 l0_2 a0_3 a0_4 l0_5 a1_0 a1_1 l1_2 a1_3 a1_4 l1_5) else (relictlaw00_SameTerm.j0 k true a0_0 a0_1 l0_2 a0_3 a0_4 l0_5 a1_0 a1_1 l1_2 a1_3 a1_4 l1_5)) else (relictlaw00_SameTerm.j0 k true a0_0 a0_1 l0_2 a0_3 a0_4 l0_5 a1_0 a1_1 l1_2 a1_3 a1_4 l1_5)) = some r := by rw [if_pos rfl] at H; exact H
        clear H
        have H := H1
        clear H1
        by_cases c9 : a0_3.toList = a1_3.toList
        · rw [if_pos c9] at H
          have c9b0 : (a0_3.toList == a1_3.toList) = true := beq_iff_eq.mpr c9
          have c9b1 : (a0_3.toList != a1_3.toList) = false := bne_eq_false_iff_eq.mpr c9
          clear c9
          by_cases c10 : a0_4 = a1_4
          · rw [if_pos c10] at H
            have c10b0 : (a0_4 == a1_4) = true := beq_iff_eq.mpr c10
            have c10b1 : (a0_4 != a1_4) = false := bne_eq_false_iff_eq.mpr c10
            clear c10
            have H' := Aside0.mk H
            clear H
            have hnb11 := NB254_255.out
            have hnc11 := NB255_254.out
            have hcz12_0 : w5.cell? ⟨gb254, 0, none⟩ = some (.int .i64 a0_0) := (blk_cell BK254.out 0).trans rfl
            have hcz12_1 : w5.cell? ⟨gb254, 1, none⟩ = some (.bool a0_1) := (blk_cell BK254.out 1).trans rfl
            have hcz12_2 : w5.cell? ⟨gb254, 2, none⟩ = some (.slice A0_2 l0_2.length c0_2) := (blk_cell BK254.out 2).trans rfl
            have hcz12_3 : w5.cell? ⟨gb254, 3, none⟩ = some (.string a0_3) := (blk_cell BK254.out 3).trans rfl
            have hcz12_4 : w5.cell? ⟨gb254, 4, none⟩ = some (.int .i64 a0_4) := (blk_cell BK254.out 4).trans rfl
            have hcz12_5 : w5.cell? ⟨gb254, 5, none⟩ = some (.slice A0_5 l0_5.length c0_5) := (blk_cell BK254.out 5).trans rfl
            have hfz12_0 := blk_frozen BK254.out 0
            have hfz12_1 := blk_frozen BK254.out 1
            have hfz12_2 := blk_frozen BK254.out 2
            have hfz12_3 := blk_frozen BK254.out 3
            have hfz12_4 := blk_frozen BK254.out 4
            have hfz12_5 := blk_frozen BK254.out 5
            have hcz13_0 : w5.cell? ⟨gb255, 0, none⟩ = some (.int .i64 a1_0) := (blk_cell BK255.out 0).trans rfl
            have hcz13_1 : w5.cell? ⟨gb255, 1, none⟩ = some (.bool a1_1) := (blk_cell BK255.out 1).trans rfl
            have hcz13_2 : w5.cell? ⟨gb255, 2, none⟩ = some (.slice A1_2 l1_2.length c1_2) := (blk_cell BK255.out 2).trans rfl
            have hcz13_3 : w5.cell? ⟨gb255, 3, none⟩ = some (.string a1_3) := (blk_cell BK255.out 3).trans rfl
            have hcz13_4 : w5.cell? ⟨gb255, 4, none⟩ = some (.int .i64 a1_4) := (blk_cell BK255.out 4).trans rfl
            have hcz13_5 : w5.cell? ⟨gb255, 5, none⟩ = some (.slice A1_5 l1_5.length c1_5) := (blk_cell BK255.out 5).trans rfl
            have hfz13_0 := blk_frozen BK255.out 0
            have hfz13_1 := blk_frozen BK255.out 1
            have hfz13_2 := blk_frozen BK255.out 2
            have hfz13_3 := blk_frozen BK255.out 3
            have hfz13_4 := blk_frozen BK255.out 4
            have hfz13_5 := blk_frozen BK255.out 5
            go_wp2_with (first | (go_at_call 91; (with_reducible refine (relictlaw00_SameNum.calls k a0_1 _ _ l0_2 a1_1 _ _ l1_2 true _ ?side1 ?side2 ?side3 ?side4 A7.out).mono ?_); (case side1 => repeat (first | exact (Kd.C_below HR0_2.out HB.out) | (with_reducible refine Kd.C_alloc ?_ _) | (with_reducible refine Kd.C_drewN ?_ _) | (with_reducible refine Kd.C_drew ?_))); (case side2 => exact HC0_2.out); (case side3 => repeat (first | exact (Kd.C_below HR1_2.out HB.out) | (with_reducible refine Kd.C_alloc ?_ _) | (with_reducible refine Kd.C_drewN ?_ _) | (with_reducible refine Kd.C_drew ?_))); (case side4 => exact HC1_2.out); rintro e w14 ⟨rfl, hb⟩; have n0_ := Aside0.mk (blk_below (g := gb254) (o := .cells #[.int .i64 a0_0, .bool a0_1, .slice A0_2 l0_2.length c0_2, .string a0_3, .int .i64 a0_4, .slice A0_5 l0_5.length c0_5] 45 (0, 0)) (by (with_reducible repeat (first | refine blk_drewN ?_ _ | refine blk_drew ?_ | refine blk_alloc ?_ _)); exact BK254.out) hb); have n1_ := Aside0.mk (blk_below (g := gb255) (o := .cells #[.int .i64 a1_0, .bool a1_1, .slice A1_2 l1_2.length c1_2, .string a1_3, .int .i64 a1_4, .slice A1_5 l1_5.length c1_5] 45 (0, 0)) (by (with_reducible repeat (first | refine blk_drewN ?_ _ | refine blk_drew ?_ | refine blk_alloc ?_ _)); exact BK255.out) hb); have n2_ := Aside0.mk (below_step (by repeat (first | (with_reducible first | exact HB.out | apply below_alloc | apply pw_below_drewN | apply below_drew1 | refine below_set ?_ GE254.out | refine below_set ?_ GE255.out) | exact HB.out)) hb); clear BK254; clear BK255; clear HB; have BK254 := n0_; have BK255 := n1_; have HB := n2_; clear n0_ n1_ n2_; (try clear hb); (try clear hb2); (try clear hk); (try clear hi); have hcz15_0 : w14.cell? ⟨gb254, 0, none⟩ = some (.int .i64 a0_0) := (blk_cell BK254.out 0).trans rfl; have hcz15_1 : w14.cell? ⟨gb254, 1, none⟩ = some (.bool a0_1) := (blk_cell BK254.out 1).trans rfl; have hcz15_2 : w14.cell? ⟨gb254, 2, none⟩ = some (.slice A0_2 l0_2.length c0_2) := (blk_cell BK254.out 2).trans rfl; have hcz15_3 : w14.cell? ⟨gb254, 3, none⟩ = some (.string a0_3) := (blk_cell BK254.out 3).trans rfl; have hcz15_4 : w14.cell? ⟨gb254, 4, none⟩ = some (.int .i64 a0_4) := (blk_cell BK254.out 4).trans rfl; have hcz15_5 : w14.cell? ⟨gb254, 5, none⟩ = some (.slice A0_5 l0_5.length c0_5) := (blk_cell BK254.out 5).trans rfl; have hfz15_0 := blk_frozen BK254.out 0; have hfz15_1 := blk_frozen BK254.out 1; have hfz15_2 := blk_frozen BK254.out 2; have hfz15_3 := blk_frozen BK254.out 3; have hfz15_4 := blk_frozen BK254.out 4; have hfz15_5 := blk_frozen BK254.out 5; have hcz16_0 : w14.cell? ⟨gb255, 0, none⟩ = some (.int .i64 a1_0) := (blk_cell BK255.out 0).trans rfl; have hcz16_1 : w14.cell? ⟨gb255, 1, none⟩ = some (.bool a1_1) := (blk_cell BK255.out 1).trans rfl; have hcz16_2 : w14.cell? ⟨gb255, 2, none⟩ = some (.slice A1_2 l1_2.length c1_2) := (blk_cell BK255.out 2).trans rfl; have hcz16_3 : w14.cell? ⟨gb255, 3, none⟩ = some (.string a1_3) := (blk_cell BK255.out 3).trans rfl; have hcz16_4 : w14.cell? ⟨gb255, 4, none⟩ = some (.int .i64 a1_4) := (blk_cell BK255.out 4).trans rfl; have hcz16_5 : w14.cell? ⟨gb255, 5, none⟩ = some (.slice A1_5 l1_5.length c1_5) := (blk_cell BK255.out 5).trans rfl; have hfz16_0 := blk_frozen BK255.out 0; have hfz16_1 := blk_frozen BK255.out 1; have hfz16_2 := blk_frozen BK255.out 2; have hfz16_3 := blk_frozen BK255.out 3; have hfz16_4 := blk_frozen BK255.out 4; have hfz16_5 := blk_frozen BK255.out 5))
            go_meet
            case rel => exact ⟨_, (((l0_5.length : Int) != (l1_5.length : Int))), (by first | rfl | (simp; done) | (simp [*]; done)), H', ⟨by first | omega | exact Nat.le_refl _⟩, ⟨by (with_reducible repeat (first | refine blk_drewN ?_ _ | refine blk_drew ?_ | refine blk_alloc ?_ _)); exact BK254.out⟩, ⟨by (with_reducible repeat (first | refine blk_drewN ?_ _ | refine blk_drew ?_ | refine blk_alloc ?_ _)); exact BK255.out⟩, ⟨by repeat (first | (with_reducible first | exact HB.out | apply below_alloc | apply pw_below_drewN | apply below_drew1 | refine below_set ?_ GE254.out | refine below_set ?_ GE255.out) | exact HB.out)⟩⟩
          · rw [if_neg c10] at H
            have c10b0 : (a0_4 == a1_4) = false := beq_eq_false_iff_ne.mpr c10
            have c10b1 : (a0_4 != a1_4) = true := bne_iff_ne.mpr c10
            have H' := Aside0.mk H
            clear H
            have hnb17 := NB254_255.out
            have hnc17 := NB255_254.out
            have hcz18_0 : w5.cell? ⟨gb254, 0, none⟩ = some (.int .i64 a0_0) := (blk_cell BK254.out 0).trans rfl
            have hcz18_1 : w5.cell? ⟨gb254, 1, none⟩ = some (.bool a0_1) := (blk_cell BK254.out 1).trans rfl
            have hcz18_2 : w5.cell? ⟨gb254, 2, none⟩ = some (.slice A0_2 l0_2.length c0_2) := (blk_cell BK254.out 2).trans rfl
            have hcz18_3 : w5.cell? ⟨gb254, 3, none⟩ = some (.string a0_3) := (blk_cell BK254.out 3).trans rfl
            have hcz18_4 : w5.cell? ⟨gb254, 4, none⟩ = some (.int .i64 a0_4) := (blk_cell BK254.out 4).trans rfl
            have hcz18_5 : w5.cell? ⟨gb254, 5, none⟩ = some (.slice A0_5 l0_5.length c0_5) := (blk_cell BK254.out 5).trans rfl
            have hfz18_0 := blk_frozen BK254.out 0
            have hfz18_1 := blk_frozen BK254.out 1
            have hfz18_2 := blk_frozen BK254.out 2
            have hfz18_3 := blk_frozen BK254.out 3
            have hfz18_4 := blk_frozen BK254.out 4
            have hfz18_5 := blk_frozen BK254.out 5
            have hcz19_0 : w5.cell? ⟨gb255, 0, none⟩ = some (.int .i64 a1_0) := (blk_cell BK255.out 0).trans rfl
            have hcz19_1 : w5.cell? ⟨gb255, 1, none⟩ = some (.bool a1_1) := (blk_cell BK255.out 1).trans rfl
            have hcz19_2 : w5.cell? ⟨gb255, 2, none⟩ = some (.slice A1_2 l1_2.length c1_2) := (blk_cell BK255.out 2).trans rfl
            have hcz19_3 : w5.cell? ⟨gb255, 3, none⟩ = some (.string a1_3) := (blk_cell BK255.out 3).trans rfl
            have hcz19_4 : w5.cell? ⟨gb255, 4, none⟩ = some (.int .i64 a1_4) := (blk_cell BK255.out 4).trans rfl
            have hcz19_5 : w5.cell? ⟨gb255, 5, none⟩ = some (.slice A1_5 l1_5.length c1_5) := (blk_cell BK255.out 5).trans rfl
            have hfz19_0 := blk_frozen BK255.out 0
            have hfz19_1 := blk_frozen BK255.out 1
            have hfz19_2 := blk_frozen BK255.out 2
            have hfz19_3 := blk_frozen BK255.out 3
            have hfz19_4 := blk_frozen BK255.out 4
            have hfz19_5 := blk_frozen BK255.out 5
            go_wp2_with (first | (go_at_call 91; (with_reducible refine (relictlaw00_SameNum.calls k a0_1 _ _ l0_2 a1_1 _ _ l1_2 true _ ?side1 ?side2 ?side3 ?side4 A7.out).mono ?_); (case side1 => repeat (first | exact (Kd.C_below HR0_2.out HB.out) | (with_reducible refine Kd.C_alloc ?_ _) | (with_reducible refine Kd.C_drewN ?_ _) | (with_reducible refine Kd.C_drew ?_))); (case side2 => exact HC0_2.out); (case side3 => repeat (first | exact (Kd.C_below HR1_2.out HB.out) | (with_reducible refine Kd.C_alloc ?_ _) | (with_reducible refine Kd.C_drewN ?_ _) | (with_reducible refine Kd.C_drew ?_))); (case side4 => exact HC1_2.out); rintro e w20 ⟨rfl, hb⟩; have n0_ := Aside0.mk (blk_below (g := gb254) (o := .cells #[.int .i64 a0_0, .bool a0_1, .slice A0_2 l0_2.length c0_2, .string a0_3, .int .i64 a0_4, .slice A0_5 l0_5.length c0_5] 45 (0, 0)) (by (with_reducible repeat (first | refine blk_drewN ?_ _ | refine blk_drew ?_ | refine blk_alloc ?_ _)); exact BK254.out) hb); have n1_ := Aside0.mk (blk_below (g := gb255) (o := .cells #[.int .i64 a1_0, .bool a1_1, .slice A1_2 l1_2.length c1_2, .string a1_3, .int .i64 a1_4, .slice A1_5 l1_5.length c1_5] 45 (0, 0)) (by (with_reducible repeat (first | refine blk_drewN ?_ _ | refine blk_drew ?_ | refine blk_alloc ?_ _)); exact BK255.out) hb); have n2_ := Aside0.mk (below_step (by repeat (first | (with_reducible first | exact HB.out | apply below_alloc | apply pw_below_drewN | apply below_drew1 | refine below_set ?_ GE254.out | refine below_set ?_ GE255.out) | exact HB.out)) hb); clear BK254; clear BK255; clear HB; have BK254 := n0_; have BK255 := n1_; have HB := n2_; clear n0_ n1_ n2_; (try clear hb); (try clear hb2); (try clear hk); (try clear hi); have hcz21_0 : w20.cell? ⟨gb254, 0, none⟩ = some (.int .i64 a0_0) := (blk_cell BK254.out 0).trans rfl; have hcz21_1 : w20.cell? ⟨gb254, 1, none⟩ = some (.bool a0_1) := (blk_cell BK254.out 1).trans rfl; have hcz21_2 : w20.cell? ⟨gb254, 2, none⟩ = some (.slice A0_2 l0_2.length c0_2) := (blk_cell BK254.out 2).trans rfl; have hcz21_3 : w20.cell? ⟨gb254, 3, none⟩ = some (.string a0_3) := (blk_cell BK254.out 3).trans rfl; have hcz21_4 : w20.cell? ⟨gb254, 4, none⟩ = some (.int .i64 a0_4) := (blk_cell BK254.out 4).trans rfl; have hcz21_5 : w20.cell? ⟨gb254, 5, none⟩ = some (.slice A0_5 l0_5.length c0_5) := (blk_cell BK254.out 5).trans rfl; have hfz21_0 := blk_frozen BK254.out 0; have hfz21_1 := blk_frozen BK254.out 1; have hfz21_2 := blk_frozen BK254.out 2; have hfz21_3 := blk_frozen BK254.out 3; have hfz21_4 := blk_frozen BK254.out 4; have hfz21_5 := blk_frozen BK254.out 5; have hcz22_0 : w20.cell? ⟨gb255, 0, none⟩ = some (.int .i64 a1_0) := (blk_cell BK255.out 0).trans rfl; have hcz22_1 : w20.cell? ⟨gb255, 1, none⟩ = some (.bool a1_1) := (blk_cell BK255.out 1).trans rfl; have hcz22_2 : w20.cell? ⟨gb255, 2, none⟩ = some (.slice A1_2 l1_2.length c1_2) := (blk_cell BK255.out 2).trans rfl; have hcz22_3 : w20.cell? ⟨gb255, 3, none⟩ = some (.string a1_3) := (blk_cell BK255.out 3).trans rfl; have hcz22_4 : w20.cell? ⟨gb255, 4, none⟩ = some (.int .i64 a1_4) := (blk_cell BK255.out 4).trans rfl; have hcz22_5 : w20.cell? ⟨gb255, 5, none⟩ = some (.slice A1_5 l1_5.length c1_5) := (blk_cell BK255.out 5).trans rfl; have hfz22_0 := blk_frozen BK255.out 0; have hfz22_1 := blk_frozen BK255.out 1; have hfz22_2 := blk_frozen BK255.out 2; have hfz22_3 := blk_frozen BK255.out 3; have hfz22_4 := blk_frozen BK255.out 4; have hfz22_5 := blk_frozen BK255.out 5))
            go_meet
            case rel => exact ⟨_, (true), (by first | rfl | (simp; done) | (simp [*]; done)), H', ⟨by first | omega | exact Nat.le_refl _⟩, ⟨by (with_reducible repeat (first | refine blk_drewN ?_ _ | refine blk_drew ?_ | refine blk_alloc ?_ _)); exact BK254.out⟩, ⟨by (with_reducible repeat (first | refine blk_drewN ?_ _ | refine blk_drew ?_ | refine blk_alloc ?_ _)); exact BK255.out⟩, ⟨by repeat (first | (with_reducible first | exact HB.out | apply below_alloc | apply pw_below_drewN | apply below_drew1 | refine below_set ?_ GE254.out | refine below_set ?_ GE255.out) | exact HB.out)⟩⟩
        · rw [if_neg c9] at H
          have c9b0 : (a0_3.toList == a1_3.toList) = false := beq_eq_false_iff_ne.mpr c9
          have c9b1 : (a0_3.toList != a1_3.toList) = true := bne_iff_ne.mpr c9
          have H' := Aside0.mk H
          clear H
          have hnb23 := NB254_255.out
          have hnc23 := NB255_254.out
          have hcz24_0 : w5.cell? ⟨gb254, 0, none⟩ = some (.int .i64 a0_0) := (blk_cell BK254.out 0).trans rfl
          have hcz24_1 : w5.cell? ⟨gb254, 1, none⟩ = some (.bool a0_1) := (blk_cell BK254.out 1).trans rfl
          have hcz24_2 : w5.cell? ⟨gb254, 2, none⟩ = some (.slice A0_2 l0_2.length c0_2) := (blk_cell BK254.out 2).trans rfl
          have hcz24_3 : w5.cell? ⟨gb254, 3, none⟩ = some (.string a0_3) := (blk_cell BK254.out 3).trans rfl
          have hcz24_4 : w5.cell? ⟨gb254, 4, none⟩ = some (.int .i64 a0_4) := (blk_cell BK254.out 4).trans rfl
          have hcz24_5 : w5.cell? ⟨gb254, 5, none⟩ = some (.slice A0_5 l0_5.length c0_5) := (blk_cell BK254.out 5).trans rfl
          have hfz24_0 := blk_frozen BK254.out 0
          have hfz24_1 := blk_frozen BK254.out 1
          have hfz24_2 := blk_frozen BK254.out 2
          have hfz24_3 := blk_frozen BK254.out 3
          have hfz24_4 := blk_frozen BK254.out 4
          have hfz24_5 := blk_frozen BK254.out 5
          have hcz25_0 : w5.cell? ⟨gb255, 0, none⟩ = some (.int .i64 a1_0) := (blk_cell BK255.out 0).trans rfl
          have hcz25_1 : w5.cell? ⟨gb255, 1, none⟩ = some (.bool a1_1) := (blk_cell BK255.out 1).trans rfl
          have hcz25_2 : w5.cell? ⟨gb255, 2, none⟩ = some (.slice A1_2 l1_2.length c1_2) := (blk_cell BK255.out 2).trans rfl
          have hcz25_3 : w5.cell? ⟨gb255, 3, none⟩ = some (.string a1_3) := (blk_cell BK255.out 3).trans rfl
          have hcz25_4 : w5.cell? ⟨gb255, 4, none⟩ = some (.int .i64 a1_4) := (blk_cell BK255.out 4).trans rfl
          have hcz25_5 : w5.cell? ⟨gb255, 5, none⟩ = some (.slice A1_5 l1_5.length c1_5) := (blk_cell BK255.out 5).trans rfl
          have hfz25_0 := blk_frozen BK255.out 0
          have hfz25_1 := blk_frozen BK255.out 1
          have hfz25_2 := blk_frozen BK255.out 2
          have hfz25_3 := blk_frozen BK255.out 3
          have hfz25_4 := blk_frozen BK255.out 4
          have hfz25_5 := blk_frozen BK255.out 5
          go_wp2_with (first | (go_at_call 91; (with_reducible refine (relictlaw00_SameNum.calls k a0_1 _ _ l0_2 a1_1 _ _ l1_2 true _ ?side1 ?side2 ?side3 ?side4 A7.out).mono ?_); (case side1 => repeat (first | exact (Kd.C_below HR0_2.out HB.out) | (with_reducible refine Kd.C_alloc ?_ _) | (with_reducible refine Kd.C_drewN ?_ _) | (with_reducible refine Kd.C_drew ?_))); (case side2 => exact HC0_2.out); (case side3 => repeat (first | exact (Kd.C_below HR1_2.out HB.out) | (with_reducible refine Kd.C_alloc ?_ _) | (with_reducible refine Kd.C_drewN ?_ _) | (with_reducible refine Kd.C_drew ?_))); (case side4 => exact HC1_2.out); rintro e w26 ⟨rfl, hb⟩; have n0_ := Aside0.mk (blk_below (g := gb254) (o := .cells #[.int .i64 a0_0, .bool a0_1, .slice A0_2 l0_2.length c0_2, .string a0_3, .int .i64 a0_4, .slice A0_5 l0_5.length c0_5] 45 (0, 0)) (by (with_reducible repeat (first | refine blk_drewN ?_ _ | refine blk_drew ?_ | refine blk_alloc ?_ _)); exact BK254.out) hb); have n1_ := Aside0.mk (blk_below (g := gb255) (o := .cells #[.int .i64 a1_0, .bool a1_1, .slice A1_2 l1_2.length c1_2, .string a1_3, .int .i64 a1_4, .slice A1_5 l1_5.length c1_5] 45 (0, 0)) (by (with_reducible repeat (first | refine blk_drewN ?_ _ | refine blk_drew ?_ | refine blk_alloc ?_ _)); exact BK255.out) hb); have n2_ := Aside0.mk (below_step (by repeat (first | (with_reducible first | exact HB.out | apply below_alloc | apply pw_below_drewN | apply below_drew1 | refine below_set ?_ GE254.out | refine below_set ?_ GE255.out) | exact HB.out)) hb); clear BK254; clear BK255; clear HB; have BK254 := n0_; have BK255 := n1_; have HB := n2_; clear n0_ n1_ n2_; (try clear hb); (try clear hb2); (try clear hk); (try clear hi); have hcz27_0 : w26.cell? ⟨gb254, 0, none⟩ = some (.int .i64 a0_0) := (blk_cell BK254.out 0).trans rfl; have hcz27_1 : w26.cell? ⟨gb254, 1, none⟩ = some (.bool a0_1) := (blk_cell BK254.out 1).trans rfl; have hcz27_2 : w26.cell? ⟨gb254, 2, none⟩ = some (.slice A0_2 l0_2.length c0_2) := (blk_cell BK254.out 2).trans rfl; have hcz27_3 : w26.cell? ⟨gb254, 3, none⟩ = some (.string a0_3) := (blk_cell BK254.out 3).trans rfl; have hcz27_4 : w26.cell? ⟨gb254, 4, none⟩ = some (.int .i64 a0_4) := (blk_cell BK254.out 4).trans rfl; have hcz27_5 : w26.cell? ⟨gb254, 5, none⟩ = some (.slice A0_5 l0_5.length c0_5) := (blk_cell BK254.out 5).trans rfl; have hfz27_0 := blk_frozen BK254.out 0; have hfz27_1 := blk_frozen BK254.out 1; have hfz27_2 := blk_frozen BK254.out 2; have hfz27_3 := blk_frozen BK254.out 3; have hfz27_4 := blk_frozen BK254.out 4; have hfz27_5 := blk_frozen BK254.out 5; have hcz28_0 : w26.cell? ⟨gb255, 0, none⟩ = some (.int .i64 a1_0) := (blk_cell BK255.out 0).trans rfl; have hcz28_1 : w26.cell? ⟨gb255, 1, none⟩ = some (.bool a1_1) := (blk_cell BK255.out 1).trans rfl; have hcz28_2 : w26.cell? ⟨gb255, 2, none⟩ = some (.slice A1_2 l1_2.length c1_2) := (blk_cell BK255.out 2).trans rfl; have hcz28_3 : w26.cell? ⟨gb255, 3, none⟩ = some (.string a1_3) := (blk_cell BK255.out 3).trans rfl; have hcz28_4 : w26.cell? ⟨gb255, 4, none⟩ = some (.int .i64 a1_4) := (blk_cell BK255.out 4).trans rfl; have hcz28_5 : w26.cell? ⟨gb255, 5, none⟩ = some (.slice A1_5 l1_5.length c1_5) := (blk_cell BK255.out 5).trans rfl; have hfz28_0 := blk_frozen BK255.out 0; have hfz28_1 := blk_frozen BK255.out 1; have hfz28_2 := blk_frozen BK255.out 2; have hfz28_3 := blk_frozen BK255.out 3; have hfz28_4 := blk_frozen BK255.out 4; have hfz28_5 := blk_frozen BK255.out 5))
          go_meet
          case rel => exact ⟨_, (true), (by first | rfl | (simp; done) | (simp [*]; done)), H', ⟨by first | omega | exact Nat.le_refl _⟩, ⟨by (with_reducible repeat (first | refine blk_drewN ?_ _ | refine blk_drew ?_ | refine blk_alloc ?_ _)); exact BK254.out⟩, ⟨by (with_reducible repeat (first | refine blk_drewN ?_ _ | refine blk_drew ?_ | refine blk_alloc ?_ _)); exact BK255.out⟩, ⟨by repeat (first | (with_reducible first | exact HB.out | apply below_alloc | apply pw_below_drewN | apply below_drew1 | refine below_set ?_ GE254.out | refine below_set ?_ GE255.out) | exact HB.out)⟩⟩
      · replace c8 := Bool.eq_false_iff.mpr c8
        subst c8
        have H1 : (relictlaw00_SameTerm.j0 k true a0_0 a0_1 l0_2 a0_3 a0_4 l0_5 a1_0 a1_1 l1_2 a1_3 a1_4 l1_5) = some r := by rw [if_neg (show ¬ (false = true) by decide)] at H; exact H
        clear H
        have H := H1
        clear H1
        have H' := Aside0.mk H
        clear H
        have hnb29 := NB254_255.out
        have hnc29 := NB255_254.out
        have hcz30_0 : w5.cell? ⟨gb254, 0, none⟩ = some (.int .i64 a0_0) := (blk_cell BK254.out 0).trans rfl
        have hcz30_1 : w5.cell? ⟨gb254, 1, none⟩ = some (.bool a0_1) := (blk_cell BK254.out 1).trans rfl
        have hcz30_2 : w5.cell? ⟨gb254, 2, none⟩ = some (.slice A0_2 l0_2.length c0_2) := (blk_cell BK254.out 2).trans rfl
        have hcz30_3 : w5.cell? ⟨gb254, 3, none⟩ = some (.string a0_3) := (blk_cell BK254.out 3).trans rfl
        have hcz30_4 : w5.cell? ⟨gb254, 4, none⟩ = some (.int .i64 a0_4) := (blk_cell BK254.out 4).trans rfl
        have hcz30_5 : w5.cell? ⟨gb254, 5, none⟩ = some (.slice A0_5 l0_5.length c0_5) := (blk_cell BK254.out 5).trans rfl
        have hfz30_0 := blk_frozen BK254.out 0
        have hfz30_1 := blk_frozen BK254.out 1
        have hfz30_2 := blk_frozen BK254.out 2
        have hfz30_3 := blk_frozen BK254.out 3
        have hfz30_4 := blk_frozen BK254.out 4
        have hfz30_5 := blk_frozen BK254.out 5
        have hcz31_0 : w5.cell? ⟨gb255, 0, none⟩ = some (.int .i64 a1_0) := (blk_cell BK255.out 0).trans rfl
        have hcz31_1 : w5.cell? ⟨gb255, 1, none⟩ = some (.bool a1_1) := (blk_cell BK255.out 1).trans rfl
        have hcz31_2 : w5.cell? ⟨gb255, 2, none⟩ = some (.slice A1_2 l1_2.length c1_2) := (blk_cell BK255.out 2).trans rfl
        have hcz31_3 : w5.cell? ⟨gb255, 3, none⟩ = some (.string a1_3) := (blk_cell BK255.out 3).trans rfl
        have hcz31_4 : w5.cell? ⟨gb255, 4, none⟩ = some (.int .i64 a1_4) := (blk_cell BK255.out 4).trans rfl
        have hcz31_5 : w5.cell? ⟨gb255, 5, none⟩ = some (.slice A1_5 l1_5.length c1_5) := (blk_cell BK255.out 5).trans rfl
        have hfz31_0 := blk_frozen BK255.out 0
        have hfz31_1 := blk_frozen BK255.out 1
        have hfz31_2 := blk_frozen BK255.out 2
        have hfz31_3 := blk_frozen BK255.out 3
        have hfz31_4 := blk_frozen BK255.out 4
        have hfz31_5 := blk_frozen BK255.out 5
        go_wp2_with (first | (go_at_call 91; (with_reducible refine (relictlaw00_SameNum.calls k a0_1 _ _ l0_2 a1_1 _ _ l1_2 false _ ?side1 ?side2 ?side3 ?side4 A7.out).mono ?_); (case side1 => repeat (first | exact (Kd.C_below HR0_2.out HB.out) | (with_reducible refine Kd.C_alloc ?_ _) | (with_reducible refine Kd.C_drewN ?_ _) | (with_reducible refine Kd.C_drew ?_))); (case side2 => exact HC0_2.out); (case side3 => repeat (first | exact (Kd.C_below HR1_2.out HB.out) | (with_reducible refine Kd.C_alloc ?_ _) | (with_reducible refine Kd.C_drewN ?_ _) | (with_reducible refine Kd.C_drew ?_))); (case side4 => exact HC1_2.out); rintro e w32 ⟨rfl, hb⟩; have n0_ := Aside0.mk (blk_below (g := gb254) (o := .cells #[.int .i64 a0_0, .bool a0_1, .slice A0_2 l0_2.length c0_2, .string a0_3, .int .i64 a0_4, .slice A0_5 l0_5.length c0_5] 45 (0, 0)) (by (with_reducible repeat (first | refine blk_drewN ?_ _ | refine blk_drew ?_ | refine blk_alloc ?_ _)); exact BK254.out) hb); have n1_ := Aside0.mk (blk_below (g := gb255) (o := .cells #[.int .i64 a1_0, .bool a1_1, .slice A1_2 l1_2.length c1_2, .string a1_3, .int .i64 a1_4, .slice A1_5 l1_5.length c1_5] 45 (0, 0)) (by (with_reducible repeat (first | refine blk_drewN ?_ _ | refine blk_drew ?_ | refine blk_alloc ?_ _)); exact BK255.out) hb); have n2_ := Aside0.mk (below_step (by repeat (first | (with_reducible first | exact HB.out | apply below_alloc | apply pw_below_drewN | apply below_drew1 | refine below_set ?_ GE254.out | refine below_set ?_ GE255.out) | exact HB.out)) hb); clear BK254; clear BK255; clear HB; have BK254 := n0_; have BK255 := n1_; have HB := n2_; clear n0_ n1_ n2_; (try clear hb); (try clear hb2); (try clear hk); (try clear hi)))
        go_meet
        case rel => exact ⟨_, (true), (by first | rfl | (simp; done) | (simp [*]; done)), H', ⟨by first | omega | exact Nat.le_refl _⟩, ⟨by (with_reducible repeat (first | refine blk_drewN ?_ _ | refine blk_drew ?_ | refine blk_alloc ?_ _)); exact BK254.out⟩, ⟨by (with_reducible repeat (first | refine blk_drewN ?_ _ | refine blk_drew ?_ | refine blk_alloc ?_ _)); exact BK255.out⟩, ⟨by repeat (first | (with_reducible first | exact HB.out | apply below_alloc | apply pw_below_drewN | apply below_drew1 | refine below_set ?_ GE254.out | refine below_set ?_ GE255.out) | exact HB.out)⟩⟩
    · rw [if_neg c6] at H
      have c6b0 : (a0_0 == a1_0) = false := beq_eq_false_iff_ne.mpr c6
      have c6b1 : (a0_0 != a1_0) = true := bne_iff_ne.mpr c6
      (first | rw [c6b0] | (simp only [i64_w, i32_w]; rw [c6b0]) | skip)
      have H' := Aside0.mk H
      clear H
      have hnb33 := NB254_255.out
      have hnc33 := NB255_254.out
      have hcz34_0 : w5.cell? ⟨gb254, 0, none⟩ = some (.int .i64 a0_0) := (blk_cell BK254.out 0).trans rfl
      have hcz34_1 : w5.cell? ⟨gb254, 1, none⟩ = some (.bool a0_1) := (blk_cell BK254.out 1).trans rfl
      have hcz34_2 : w5.cell? ⟨gb254, 2, none⟩ = some (.slice A0_2 l0_2.length c0_2) := (blk_cell BK254.out 2).trans rfl
      have hcz34_3 : w5.cell? ⟨gb254, 3, none⟩ = some (.string a0_3) := (blk_cell BK254.out 3).trans rfl
      have hcz34_4 : w5.cell? ⟨gb254, 4, none⟩ = some (.int .i64 a0_4) := (blk_cell BK254.out 4).trans rfl
      have hcz34_5 : w5.cell? ⟨gb254, 5, none⟩ = some (.slice A0_5 l0_5.length c0_5) := (blk_cell BK254.out 5).trans rfl
      have hfz34_0 := blk_frozen BK254.out 0
      have hfz34_1 := blk_frozen BK254.out 1
      have hfz34_2 := blk_frozen BK254.out 2
      have hfz34_3 := blk_frozen BK254.out 3
      have hfz34_4 := blk_frozen BK254.out 4
      have hfz34_5 := blk_frozen BK254.out 5
      have hcz35_0 : w5.cell? ⟨gb255, 0, none⟩ = some (.int .i64 a1_0) := (blk_cell BK255.out 0).trans rfl
      have hcz35_1 : w5.cell? ⟨gb255, 1, none⟩ = some (.bool a1_1) := (blk_cell BK255.out 1).trans rfl
      have hcz35_2 : w5.cell? ⟨gb255, 2, none⟩ = some (.slice A1_2 l1_2.length c1_2) := (blk_cell BK255.out 2).trans rfl
      have hcz35_3 : w5.cell? ⟨gb255, 3, none⟩ = some (.string a1_3) := (blk_cell BK255.out 3).trans rfl
      have hcz35_4 : w5.cell? ⟨gb255, 4, none⟩ = some (.int .i64 a1_4) := (blk_cell BK255.out 4).trans rfl
      have hcz35_5 : w5.cell? ⟨gb255, 5, none⟩ = some (.slice A1_5 l1_5.length c1_5) := (blk_cell BK255.out 5).trans rfl
      have hfz35_0 := blk_frozen BK255.out 0
      have hfz35_1 := blk_frozen BK255.out 1
      have hfz35_2 := blk_frozen BK255.out 2
      have hfz35_3 := blk_frozen BK255.out 3
      have hfz35_4 := blk_frozen BK255.out 4
      have hfz35_5 := blk_frozen BK255.out 5
      go_wp2
      go_meet
      case rel => exact ⟨_, (true), (by first | rfl | (simp; done) | (simp [*]; done)), H', ⟨by first | omega | exact Nat.le_refl _⟩, ⟨by (with_reducible repeat (first | refine blk_drewN ?_ _ | refine blk_drew ?_ | refine blk_alloc ?_ _)); exact BK254.out⟩, ⟨by (with_reducible repeat (first | refine blk_drewN ?_ _ | refine blk_drew ?_ | refine blk_alloc ?_ _)); exact BK255.out⟩, ⟨by repeat (first | (with_reducible first | exact HB.out | apply below_alloc | apply pw_below_drewN | apply below_drew1 | refine below_set ?_ GE254.out | refine below_set ?_ GE255.out) | exact HB.out)⟩⟩
  case rest =>
    clear HC3
    try clear c1
    try clear c2
    try clear p2
    try clear c3
    try clear c6
    try clear c6b0
    try clear c6b1
    try clear c8
    try clear c9
    try clear c9b0
    try clear c9b1
    try clear c10
    try clear c10b0
    try clear c10b1
    try clear c11
    try clear c17
    try clear c23
    try clear c29
    try clear c33
    try clear hcz12_0
    try clear hcz12_1
    try clear hcz12_2
    try clear hcz12_3
    try clear hcz12_4
    try clear hcz12_5
    try clear hcz13_0
    try clear hcz13_1
    try clear hcz13_2
    try clear hcz13_3
    try clear hcz13_4
    try clear hcz13_5
    try clear hcz15_0
    try clear hcz15_1
    try clear hcz15_2
    try clear hcz15_3
    try clear hcz15_4
    try clear hcz15_5
    try clear hcz16_0
    try clear hcz16_1
    try clear hcz16_2
    try clear hcz16_3
    try clear hcz16_4
    try clear hcz16_5
    try clear hcz18_0
    try clear hcz18_1
    try clear hcz18_2
    try clear hcz18_3
    try clear hcz18_4
    try clear hcz18_5
    try clear hcz19_0
    try clear hcz19_1
    try clear hcz19_2
    try clear hcz19_3
    try clear hcz19_4
    try clear hcz19_5
    try clear hcz21_0
    try clear hcz21_1
    try clear hcz21_2
    try clear hcz21_3
    try clear hcz21_4
    try clear hcz21_5
    try clear hcz22_0
    try clear hcz22_1
    try clear hcz22_2
    try clear hcz22_3
    try clear hcz22_4
    try clear hcz22_5
    try clear hcz24_0
    try clear hcz24_1
    try clear hcz24_2
    try clear hcz24_3
    try clear hcz24_4
    try clear hcz24_5
    try clear hcz25_0
    try clear hcz25_1
    try clear hcz25_2
    try clear hcz25_3
    try clear hcz25_4
    try clear hcz25_5
    try clear hcz27_0
    try clear hcz27_1
    try clear hcz27_2
    try clear hcz27_3
    try clear hcz27_4
    try clear hcz27_5
    try clear hcz28_0
    try clear hcz28_1
    try clear hcz28_2
    try clear hcz28_3
    try clear hcz28_4
    try clear hcz28_5
    try clear hcz30_0
    try clear hcz30_1
    try clear hcz30_2
    try clear hcz30_3
    try clear hcz30_4
    try clear hcz30_5
    try clear hcz31_0
    try clear hcz31_1
    try clear hcz31_2
    try clear hcz31_3
    try clear hcz31_4
    try clear hcz31_5
    try clear hcz34_0
    try clear hcz34_1
    try clear hcz34_2
    try clear hcz34_3
    try clear hcz34_4
    try clear hcz34_5
    try clear hcz35_0
    try clear hcz35_1
    try clear hcz35_2
    try clear hcz35_3
    try clear hcz35_4
    try clear hcz35_5
    try clear hfz12_0
    try clear hfz12_1
    try clear hfz12_2
    try clear hfz12_3
    try clear hfz12_4
    try clear hfz12_5
    try clear hfz13_0
    try clear hfz13_1
    try clear hfz13_2
    try clear hfz13_3
    try clear hfz13_4
    try clear hfz13_5
    try clear hfz15_0
    try clear hfz15_1
    try clear hfz15_2
    try clear hfz15_3
    try clear hfz15_4
    try clear hfz15_5
    try clear hfz16_0
    try clear hfz16_1
    try clear hfz16_2
    try clear hfz16_3
    try clear hfz16_4
    try clear hfz16_5
    try clear hfz18_0
    try clear hfz18_1
    try clear hfz18_2
    try clear hfz18_3
    try clear hfz18_4
    try clear hfz18_5
    try clear hfz19_0
    try clear hfz19_1
    try clear hfz19_2
    try clear hfz19_3
    try clear hfz19_4
    try clear hfz19_5
    try clear hfz21_0
    try clear hfz21_1
    try clear hfz21_2
    try clear hfz21_3
    try clear hfz21_4
    try clear hfz21_5
    try clear hfz22_0
    try clear hfz22_1
    try clear hfz22_2
    try clear hfz22_3
    try clear hfz22_4
    try clear hfz22_5
    try clear hfz24_0
    try clear hfz24_1
    try clear hfz24_2
    try clear hfz24_3
    try clear hfz24_4
    try clear hfz24_5
    try clear hfz25_0
    try clear hfz25_1
    try clear hfz25_2
    try clear hfz25_3
    try clear hfz25_4
    try clear hfz25_5
    try clear hfz27_0
    try clear hfz27_1
    try clear hfz27_2
    try clear hfz27_3
    try clear hfz27_4
    try clear hfz27_5
    try clear hfz28_0
    try clear hfz28_1
    try clear hfz28_2
    try clear hfz28_3
    try clear hfz28_4
    try clear hfz28_5
    try clear hfz30_0
    try clear hfz30_1
    try clear hfz30_2
    try clear hfz30_3
    try clear hfz30_4
    try clear hfz30_5
    try clear hfz31_0
    try clear hfz31_1
    try clear hfz31_2
    try clear hfz31_3
    try clear hfz31_4
    try clear hfz31_5
    try clear hfz34_0
    try clear hfz34_1
    try clear hfz34_2
    try clear hfz34_3
    try clear hfz34_4
    try clear hfz34_5
    try clear hfz35_0
    try clear hfz35_1
    try clear hfz35_2
    try clear hfz35_3
    try clear hfz35_4
    try clear hfz35_5
    obtain ⟨kq, x41_2, rfl, HA, HJ2, BK254, BK255, HB⟩ := hcut
    cases kq with
    | zero => exact absurd HA.out (by simp [relictlaw00_SameTerm.j0])
    | succ kj2 =>
      have H := HA.out
      clear HA
      simp only [relictlaw00_SameTerm.j0] at H
      by_cases c36 : x41_2 = true
      · subst c36
        have H1 : (some false) = some r := by rw [if_pos rfl] at H; exact H
        clear H
        have H := H1
        clear H1
        obtain rfl := Option.some.inj H
        go_wp2
        go_ret
        exact ⟨by first | rfl | (simp [errW_none, errW_some] <;> rfl) | (simp [*, errW_none, errW_some] <;> rfl), by repeat (first | (with_reducible first | exact HB.out | apply below_alloc | apply pw_below_drewN | apply below_drew1 | refine below_set ?_ GE254.out | refine below_set ?_ GE255.out) | exact HB.out)⟩
      · replace c36 := Bool.eq_false_iff.mpr c36
        subst c36
        have H1 : (relictlaw00_SameTerm.l0 kj2 0 a0_0 a0_1 l0_2 a0_3 a0_4 l0_5 a1_0 a1_1 l1_2 a1_3 a1_4 l1_5) = some r := by rw [if_neg (show ¬ (false = true) by decide)] at H; exact H
        clear H
        have H := H1
        clear H1
        have H' := Aside0.mk H
        clear H
        go_wp2
        go_loopg [5] kj2 (fun kq v5 w' => ∃ (x5_2 : Int), v5 = .int .i64 x5_2 ∧ Aside0 (relictlaw00_SameTerm.l0 kq x5_2 a0_0 a0_1 l0_2 a0_3 a0_4 l0_5 a1_0 a1_1 l1_2 a1_3 a1_4 l1_5 = some r) ∧ Aside0 (kq ≤ kj2) ∧ Aside0 (w'.heap[gb254]? = some (.cells #[.int .i64 a0_0, .bool a0_1, (.slice A0_2 l0_2.length c0_2), .string a0_3, .int .i64 a0_4, (.slice A0_5 l0_5.length c0_5)] 45 (0, 0))) ∧ Aside0 (w'.heap[gb255]? = some (.cells #[.int .i64 a1_0, .bool a1_1, (.slice A1_2 l1_2.length c1_2), .string a1_3, .int .i64 a1_4, (.slice A1_5 l1_5.length c1_5)] 45 (0, 0))) ∧ Aside0 (Below w.heap.size w w'))
        case atStart => exact ⟨(0), (by first | rfl | (simp; done) | (simp [*]; done)), H', ⟨Nat.le_refl _⟩, ⟨by (with_reducible repeat (first | refine blk_drewN ?_ _ | refine blk_drew ?_ | refine blk_alloc ?_ _)); exact BK254.out⟩, ⟨by (with_reducible repeat (first | refine blk_drewN ?_ _ | refine blk_drew ?_ | refine blk_alloc ?_ _)); exact BK255.out⟩, ⟨by repeat (first | (with_reducible first | exact HB.out | apply below_alloc | apply pw_below_drewN | apply below_drew1 | refine below_set ?_ GE254.out | refine below_set ?_ GE255.out) | exact HB.out)⟩⟩
        case round =>
          clear H'
          try clear c1
          try clear c2
          try clear p2
          try clear c3
          try clear c6
          try clear c6b0
          try clear c6b1
          try clear c8
          try clear c9
          try clear c9b0
          try clear c9b1
          try clear c10
          try clear c10b0
          try clear c10b1
          try clear c11
          try clear c17
          try clear c23
          try clear c29
          try clear c33
          try clear c36
          try clear hcz12_0
          try clear hcz12_1
          try clear hcz12_2
          try clear hcz12_3
          try clear hcz12_4
          try clear hcz12_5
          try clear hcz13_0
          try clear hcz13_1
          try clear hcz13_2
          try clear hcz13_3
          try clear hcz13_4
          try clear hcz13_5
          try clear hcz15_0
          try clear hcz15_1
          try clear hcz15_2
          try clear hcz15_3
          try clear hcz15_4
          try clear hcz15_5
          try clear hcz16_0
          try clear hcz16_1
          try clear hcz16_2
          try clear hcz16_3
          try clear hcz16_4
          try clear hcz16_5
          try clear hcz18_0
          try clear hcz18_1
          try clear hcz18_2
          try clear hcz18_3
          try clear hcz18_4
          try clear hcz18_5
          try clear hcz19_0
          try clear hcz19_1
          try clear hcz19_2
          try clear hcz19_3
          try clear hcz19_4
          try clear hcz19_5
          try clear hcz21_0
          try clear hcz21_1
          try clear hcz21_2
          try clear hcz21_3
          try clear hcz21_4
          try clear hcz21_5
          try clear hcz22_0
          try clear hcz22_1
          try clear hcz22_2
          try clear hcz22_3
          try clear hcz22_4
          try clear hcz22_5
          try clear hcz24_0
          try clear hcz24_1
          try clear hcz24_2
          try clear hcz24_3
          try clear hcz24_4
          try clear hcz24_5
          try clear hcz25_0
          try clear hcz25_1
          try clear hcz25_2
          try clear hcz25_3
          try clear hcz25_4
          try clear hcz25_5
          try clear hcz27_0
          try clear hcz27_1
          try clear hcz27_2
          try clear hcz27_3
          try clear hcz27_4
          try clear hcz27_5
          try clear hcz28_0
          try clear hcz28_1
          try clear hcz28_2
          try clear hcz28_3
          try clear hcz28_4
          try clear hcz28_5
          try clear hcz30_0
          try clear hcz30_1
          try clear hcz30_2
          try clear hcz30_3
          try clear hcz30_4
          try clear hcz30_5
          try clear hcz31_0
          try clear hcz31_1
          try clear hcz31_2
          try clear hcz31_3
          try clear hcz31_4
          try clear hcz31_5
          try clear hcz34_0
          try clear hcz34_1
          try clear hcz34_2
          try clear hcz34_3
          try clear hcz34_4
          try clear hcz34_5
          try clear hcz35_0
          try clear hcz35_1
          try clear hcz35_2
          try clear hcz35_3
          try clear hcz35_4
          try clear hcz35_5
          try clear hfz12_0
          try clear hfz12_1
          try clear hfz12_2
          try clear hfz12_3
          try clear hfz12_4
          try clear hfz12_5
          try clear hfz13_0
          try clear hfz13_1
          try clear hfz13_2
          try clear hfz13_3
          try clear hfz13_4
          try clear hfz13_5
          try clear hfz15_0
          try clear hfz15_1
          try clear hfz15_2
          try clear hfz15_3
          try clear hfz15_4
          try clear hfz15_5
          try clear hfz16_0
          try clear hfz16_1
          try clear hfz16_2
          try clear hfz16_3
          try clear hfz16_4
          try clear hfz16_5
          try clear hfz18_0
          try clear hfz18_1
          try clear hfz18_2
          try clear hfz18_3
          try clear hfz18_4
          try clear hfz18_5
          try clear hfz19_0
          try clear hfz19_1
          try clear hfz19_2
          try clear hfz19_3
          try clear hfz19_4
          try clear hfz19_5
          try clear hfz21_0
          try clear hfz21_1
          try clear hfz21_2
          try clear hfz21_3
          try clear hfz21_4
          try clear hfz21_5
          try clear hfz22_0
          try clear hfz22_1
          try clear hfz22_2
          try clear hfz22_3
          try clear hfz22_4
          try clear hfz22_5
          try clear hfz24_0
          try clear hfz24_1
          try clear hfz24_2
          try clear hfz24_3
          try clear hfz24_4
          try clear hfz24_5
          try clear hfz25_0
          try clear hfz25_1
          try clear hfz25_2
          try clear hfz25_3
          try clear hfz25_4
          try clear hfz25_5
          try clear hfz27_0
          try clear hfz27_1
          try clear hfz27_2
          try clear hfz27_3
          try clear hfz27_4
          try clear hfz27_5
          try clear hfz28_0
          try clear hfz28_1
          try clear hfz28_2
          try clear hfz28_3
          try clear hfz28_4
          try clear hfz28_5
          try clear hfz30_0
          try clear hfz30_1
          try clear hfz30_2
          try clear hfz30_3
          try clear hfz30_4
          try clear hfz30_5
          try clear hfz31_0
          try clear hfz31_1
          try clear hfz31_2
          try clear hfz31_3
          try clear hfz31_4
          try clear hfz31_5
          try clear hfz34_0
          try clear hfz34_1
          try clear hfz34_2
          try clear hfz34_3
          try clear hfz34_4
          try clear hfz34_5
          try clear hfz35_0
          try clear hfz35_1
          try clear hfz35_2
          try clear hfz35_3
          try clear hfz35_4
          try clear hfz35_5
          try clear p2
          obtain ⟨x5_2, rfl, HA, HK2, BK254, BK255, HB⟩ := hrel
          cases gk with
          | zero => exact absurd HA.out (by simp [relictlaw00_SameTerm.l0])
          | succ k2 =>
            have H := HA.out
            clear HA
            simp only [relictlaw00_SameTerm.l0] at H
            by_cases c37 : x5_2 < (l0_5.length : Int)
            · rw [if_pos c37] at H
              have c37b0 : decide (x5_2 < (l0_5.length : Int)) = true := decide_eq_true c37
              clear c37
              by_cases c38 : 0 ≤ x5_2
              · rw [if_pos c38] at H
                have c38b0 : decide (0 ≤ x5_2) = true := decide_eq_true c38
                clear c38
                by_cases c39 : x5_2 < (l1_5.length : Int)
                · rw [if_pos c39] at H
                  have c39b0 : decide (x5_2 < (l1_5.length : Int)) = true := decide_eq_true c39
                  clear c39
                  replace H := Option.bind_eq_some_iff.mp H
                  obtain ⟨t259, A400, H⟩ := H
                  replace H : (if t259 = true then (relictlaw00_SameTerm.l0 k2 (wrap64 (x5_2 + 1)) a0_0 a0_1 l0_2 a0_3 a0_4 l0_5 a1_0 a1_1 l1_2 a1_3 a1_4 l1_5) else (some false)) = some r := H
                  have A40 := Aside0.mk A400
                  clear A400
                  by_cases c41 : t259 = true
                  · subst c41
                    have H1 : (relictlaw00_SameTerm.l0 k2 (wrap64 (x5_2 + 1)) a0_0 a0_1 l0_2 a0_3 a0_4 l0_5 a1_0 a1_1 l1_2 a1_3 a1_4 l1_5) = some r := by rw [if_pos rfl] at H; exact H
                    clear H
                    have H := H1
                    clear H1
                    have H' := Aside0.mk H
                    clear H
                    have hnb42 := NB254_255.out
                    have hnc42 := NB255_254.out
                    have hcz43_0 : wr.cell? ⟨gb254, 0, none⟩ = some (.int .i64 a0_0) := (blk_cell BK254.out 0).trans rfl
                    have hcz43_1 : wr.cell? ⟨gb254, 1, none⟩ = some (.bool a0_1) := (blk_cell BK254.out 1).trans rfl
                    have hcz43_2 : wr.cell? ⟨gb254, 2, none⟩ = some (.slice A0_2 l0_2.length c0_2) := (blk_cell BK254.out 2).trans rfl
                    have hcz43_3 : wr.cell? ⟨gb254, 3, none⟩ = some (.string a0_3) := (blk_cell BK254.out 3).trans rfl
                    have hcz43_4 : wr.cell? ⟨gb254, 4, none⟩ = some (.int .i64 a0_4) := (blk_cell BK254.out 4).trans rfl
                    have hcz43_5 : wr.cell? ⟨gb254, 5, none⟩ = some (.slice A0_5 l0_5.length c0_5) := (blk_cell BK254.out 5).trans rfl
                    have hfz43_0 := blk_frozen BK254.out 0
                    have hfz43_1 := blk_frozen BK254.out 1
                    have hfz43_2 := blk_frozen BK254.out 2
                    have hfz43_3 := blk_frozen BK254.out 3
                    have hfz43_4 := blk_frozen BK254.out 4
                    have hfz43_5 := blk_frozen BK254.out 5
                    try go_wp2
                    have n0_ := Aside0.mk (blk_drew BK254.out)
                    have n1_ := Aside0.mk (blk_drew BK255.out)
                    have n2_ := Aside0.mk (below_drew1 HB.out)
                    clear BK254
                    clear BK255
                    clear HB
                    have BK254 := n0_
                    have BK255 := n1_
                    have HB := n2_
                    clear n0_ n1_ n2_
                    have p257 : 0 ≤ (x5_2 : Int) := of_decide_eq_true (by first | (with_reducible assumption) | assumption)
                    have q257 : x5_2 < (l0_5.length : Int) := of_decide_eq_true (by first | (with_reducible assumption) | assumption)
                    obtain ⟨ad257, A257_2, c257_2, A257_5, c257_5, e257, hx257_0, hx257_1, hx257_2, hx257_3, hx257_4, hx257_5, hl257_2, hi257_2, hl257_5, hi257_5⟩ := at_T45 HR0_5.out x5_2 p257 q257
                    have hw257_5 := hx257_5
                    have hw257_4 := hx257_4
                    have hw257_3 := hx257_3
                    have hw257_2 := hx257_2
                    have hw257_1 := hx257_1
                    have hw257_0 := hx257_0
                    cases e257
                    replace hx257_0 := (HB.out.cell (World.block_lt_of_cell? w _ hx257_0)).trans hx257_0
                    replace hx257_1 := (HB.out.cell (World.block_lt_of_cell? w _ hx257_1)).trans hx257_1
                    replace hx257_2 := (HB.out.cell (World.block_lt_of_cell? w _ hx257_2)).trans hx257_2
                    replace hx257_3 := (HB.out.cell (World.block_lt_of_cell? w _ hx257_3)).trans hx257_3
                    replace hx257_4 := (HB.out.cell (World.block_lt_of_cell? w _ hx257_4)).trans hx257_4
                    replace hx257_5 := (HB.out.cell (World.block_lt_of_cell? w _ hx257_5)).trans hx257_5
                    have HR257_2 := Aside0.mk hi257_2
                    have HC257_2 := Aside0.mk hl257_2
                    clear hi257_2 hl257_2
                    have HR257_5 := Aside0.mk hi257_5
                    have HC257_5 := Aside0.mk hl257_5
                    clear hi257_5 hl257_5
                    replace p257 := eq_true p257
                    replace q257 := eq_true q257
                    have p258 : 0 ≤ (x5_2 : Int) := of_decide_eq_true (by first | (with_reducible assumption) | assumption)
                    have q258 : x5_2 < (l1_5.length : Int) := of_decide_eq_true (by first | (with_reducible assumption) | assumption)
                    obtain ⟨ad258, A258_2, c258_2, A258_5, c258_5, e258, hx258_0, hx258_1, hx258_2, hx258_3, hx258_4, hx258_5, hl258_2, hi258_2, hl258_5, hi258_5⟩ := at_T45 HR1_5.out x5_2 p258 q258
                    have hw258_5 := hx258_5
                    have hw258_4 := hx258_4
                    have hw258_3 := hx258_3
                    have hw258_2 := hx258_2
                    have hw258_1 := hx258_1
                    have hw258_0 := hx258_0
                    cases e258
                    replace hx258_0 := (HB.out.cell (World.block_lt_of_cell? w _ hx258_0)).trans hx258_0
                    replace hx258_1 := (HB.out.cell (World.block_lt_of_cell? w _ hx258_1)).trans hx258_1
                    replace hx258_2 := (HB.out.cell (World.block_lt_of_cell? w _ hx258_2)).trans hx258_2
                    replace hx258_3 := (HB.out.cell (World.block_lt_of_cell? w _ hx258_3)).trans hx258_3
                    replace hx258_4 := (HB.out.cell (World.block_lt_of_cell? w _ hx258_4)).trans hx258_4
                    replace hx258_5 := (HB.out.cell (World.block_lt_of_cell? w _ hx258_5)).trans hx258_5
                    have HR258_2 := Aside0.mk hi258_2
                    have HC258_2 := Aside0.mk hl258_2
                    clear hi258_2 hl258_2
                    have HR258_5 := Aside0.mk hi258_5
                    have HC258_5 := Aside0.mk hl258_5
                    clear hi258_5 hl258_5
                    replace p258 := eq_true p258
                    replace q258 := eq_true q258
                    refine start_ (n := 12) (S := fun w' => w'.cell? ⟨gb254, 0, none⟩ = some (.int .i64 a0_0) ∧ w'.cell? ⟨gb254, 1, none⟩ = some (.bool a0_1) ∧ w'.cell? ⟨gb254, 2, none⟩ = some (.slice A0_2 l0_2.length c0_2) ∧ w'.cell? ⟨gb254, 3, none⟩ = some (.string a0_3) ∧ w'.cell? ⟨gb254, 4, none⟩ = some (.int .i64 a0_4) ∧ w'.cell? ⟨gb254, 5, none⟩ = some (.slice (some ad257) l0_5.length c0_5) ∧ w'.cell? ⟨gb255, 0, none⟩ = some (.int .i64 a1_0) ∧ w'.cell? ⟨gb255, 1, none⟩ = some (.bool a1_1) ∧ w'.cell? ⟨gb255, 2, none⟩ = some (.slice A1_2 l1_2.length c1_2) ∧ w'.cell? ⟨gb255, 3, none⟩ = some (.string a1_3) ∧ w'.cell? ⟨gb255, 4, none⟩ = some (.int .i64 a1_4) ∧ w'.cell? ⟨gb255, 5, none⟩ = some (.slice (some ad258) l1_5.length c1_5) ∧ w'.cell? (ad257.add ((x5_2).toNat * 6)) = some (.int .i64 ((rd_T45 l0_5 x5_2).f0)) ∧ w'.cell? ⟨(ad257.add ((x5_2).toNat * 6)).block, (ad257.add ((x5_2).toNat * 6)).off + 1, none⟩ = some (.bool ((rd_T45 l0_5 x5_2).f1.f0)) ∧ w'.cell? ⟨(ad257.add ((x5_2).toNat * 6)).block, (ad257.add ((x5_2).toNat * 6)).off + 2, none⟩ = some (.slice A257_2 ((rd_T45 l0_5 x5_2).f1.f1).length c257_2) ∧ w'.cell? ⟨(ad257.add ((x5_2).toNat * 6)).block, (ad257.add ((x5_2).toNat * 6)).off + 3, none⟩ = some (.string ((rd_T45 l0_5 x5_2).f2)) ∧ w'.cell? ⟨(ad257.add ((x5_2).toNat * 6)).block, (ad257.add ((x5_2).toNat * 6)).off + 4, none⟩ = some (.int .i64 ((rd_T45 l0_5 x5_2).f3)) ∧ w'.cell? ⟨(ad257.add ((x5_2).toNat * 6)).block, (ad257.add ((x5_2).toNat * 6)).off + 5, none⟩ = some (.slice A257_5 ((rd_T45 l0_5 x5_2).f4).length c257_5) ∧ w'.cell? (ad258.add ((x5_2).toNat * 6)) = some (.int .i64 ((rd_T45 l1_5 x5_2).f0)) ∧ w'.cell? ⟨(ad258.add ((x5_2).toNat * 6)).block, (ad258.add ((x5_2).toNat * 6)).off + 1, none⟩ = some (.bool ((rd_T45 l1_5 x5_2).f1.f0)) ∧ w'.cell? ⟨(ad258.add ((x5_2).toNat * 6)).block, (ad258.add ((x5_2).toNat * 6)).off + 2, none⟩ = some (.slice A258_2 ((rd_T45 l1_5 x5_2).f1.f1).length c258_2) ∧ w'.cell? ⟨(ad258.add ((x5_2).toNat * 6)).block, (ad258.add ((x5_2).toNat * 6)).off + 3, none⟩ = some (.string ((rd_T45 l1_5 x5_2).f2)) ∧ w'.cell? ⟨(ad258.add ((x5_2).toNat * 6)).block, (ad258.add ((x5_2).toNat * 6)).off + 4, none⟩ = some (.int .i64 ((rd_T45 l1_5 x5_2).f3)) ∧ w'.cell? ⟨(ad258.add ((x5_2).toNat * 6)).block, (ad258.add ((x5_2).toNat * 6)).off + 5, none⟩ = some (.slice A258_5 ((rd_T45 l1_5 x5_2).f4).length c258_5)) (ds := []) #[false, false, false, false, false, false, false, false, false, false, false, false] (by kernel_rfl) rfl rfl ⟨(blk_cell BK254.out 0).trans rfl, (blk_cell BK254.out 1).trans rfl, (blk_cell BK254.out 2).trans rfl, (blk_cell BK254.out 3).trans rfl, (blk_cell BK254.out 4).trans rfl, (blk_cell BK254.out 5).trans rfl, (blk_cell BK255.out 0).trans rfl, (blk_cell BK255.out 1).trans rfl, (blk_cell BK255.out 2).trans rfl, (blk_cell BK255.out 3).trans rfl, (blk_cell BK255.out 4).trans rfl, (blk_cell BK255.out 5).trans rfl, ((HB.out.cell (World.block_lt_of_cell? w _ hw257_0)).trans hw257_0), ((HB.out.cell (World.block_lt_of_cell? w _ hw257_1)).trans hw257_1), ((HB.out.cell (World.block_lt_of_cell? w _ hw257_2)).trans hw257_2), ((HB.out.cell (World.block_lt_of_cell? w _ hw257_3)).trans hw257_3), ((HB.out.cell (World.block_lt_of_cell? w _ hw257_4)).trans hw257_4), ((HB.out.cell (World.block_lt_of_cell? w _ hw257_5)).trans hw257_5), ((HB.out.cell (World.block_lt_of_cell? w _ hw258_0)).trans hw258_0), ((HB.out.cell (World.block_lt_of_cell? w _ hw258_1)).trans hw258_1), ((HB.out.cell (World.block_lt_of_cell? w _ hw258_2)).trans hw258_2), ((HB.out.cell (World.block_lt_of_cell? w _ hw258_3)).trans hw258_3), ((HB.out.cell (World.block_lt_of_cell? w _ hw258_4)).trans hw258_4), ((HB.out.cell (World.block_lt_of_cell? w _ hw258_5)).trans hw258_5)⟩ (fun hHeld => ?_); refine with_tabW relictlaw00_SameTerm.tab6 relictlaw00_SameTerm.bits6 (fun HT_ HW_ => ?_)
                    generalize wr.drew = w44 at BK254 BK255 HB HR257_2 HR257_5 HR258_2 HR258_5 hx257_0 hx257_1 hx257_2 hx257_3 hx257_4 hx257_5 hx258_0 hx258_1 hx258_2 hx258_3 hx258_4 hx258_5 hHeld ⊢
                    refine pure_ (i := 0) (N := some 49) (v := ?_) (a' := ?_) #[true, false, false, false, false, false, false, false, false, false, false, false] rfl rfl (any_of HT_.out (by kernel_rfl)) (fun _ _ _ h => h) (Or.inl ⟨by rfl, ?_⟩) ?_ ?_
                    rotate_left
                    · intro w'
                      go_simp
                      with_reducible rfl
                    rotate_left
                    · simp only [Act.put, List.setIfInBounds_toArray, List.set_cons_zero, List.set_cons_succ, i64_w, i32_w]
                      rfl
                    refine pure_ (i := 2) (N := some 51) (v := ?_) (a' := ?_) #[true, false, true, false, false, false, false, false, false, false, false, false] rfl rfl (any_of HT_.out (by kernel_rfl)) (fun _ _ _ h => h) (Or.inl ⟨by rfl, ?_⟩) ?_ ?_
                    rotate_left
                    · intro w'
                      go_simp
                      with_reducible rfl
                    rotate_left
                    · simp only [Act.put, List.setIfInBounds_toArray, List.set_cons_zero, List.set_cons_succ, i64_w, i32_w]
                      rfl
                    refine pure_ (i := 5) (N := some 54) (v := ?_) (a' := ?_) #[true, false, true, false, false, true, false, false, false, false, false, false] rfl rfl (any_of HT_.out (by kernel_rfl)) (fun _ _ _ h => h) (Or.inl ⟨by rfl, ?_⟩) ?_ ?_
                    rotate_left
                    · intro w'
                      go_simp
                      with_reducible rfl
                    rotate_left
                    · simp only [Act.put, List.setIfInBounds_toArray, List.set_cons_zero, List.set_cons_succ, i64_w, i32_w]
                      rfl
                    refine pure_ (i := 7) (N := some 56) (v := ?_) (a' := ?_) #[true, false, true, false, false, true, false, true, false, false, false, false] rfl rfl (any_of HT_.out (by kernel_rfl)) (fun _ _ _ h => h) (Or.inl ⟨by rfl, ?_⟩) ?_ ?_
                    rotate_left
                    · intro w'
                      go_simp
                      with_reducible rfl
                    rotate_left
                    · simp only [Act.put, List.setIfInBounds_toArray, List.set_cons_zero, List.set_cons_succ, i64_w, i32_w]
                      rfl
                    refine take_ (i := 1) (N := some 50) (v := ?_) (a' := ?_) #[true, true, true, false, false, true, false, true, false, false, false, false] rfl rfl (take_ofW HT_.out HW_.out (by kernel_rfl)) (fun _ _ _ h => h) (Or.inl ⟨by rfl, ?_⟩) hHeld ?_ ?_
                    rotate_left
                    · rintro w' ⟨s0, s1, s2, s3, s4, s5, s6, s7, s8, s9, s10, s11, s12, s13, s14, s15, s16, s17, s18, s19, s20, s21, s22, s23⟩
                      go_simp
                      with_reducible rfl
                    rotate_left
                    · simp only [Act.put, List.setIfInBounds_toArray, List.set_cons_zero, List.set_cons_succ, i64_w, i32_w]
                      rfl
                    refine pure_ (i := 3) (N := some 52) (v := ?_) (a' := ?_) #[true, true, true, true, false, true, false, true, false, false, false, false] rfl rfl (any_of HT_.out (by kernel_rfl)) (fun _ _ _ h => h) (Or.inl ⟨by rfl, ?_⟩) ?_ ?_
                    rotate_left
                    · intro w'
                      go_simp
                      with_reducible rfl
                    rotate_left
                    · simp only [Act.put, List.setIfInBounds_toArray, List.set_cons_zero, List.set_cons_succ, i64_w, i32_w]
                      rfl
                    refine take_ (i := 4) (N := some 53) (v := ?_) (a' := ?_) #[true, true, true, true, true, true, false, true, false, false, false, false] rfl rfl (take_ofW HT_.out HW_.out (by kernel_rfl)) (fun _ _ _ h => h) (Or.inl ⟨by rfl, ?_⟩) hHeld ?_ ?_
                    rotate_left
                    · rintro w' ⟨s0, s1, s2, s3, s4, s5, s6, s7, s8, s9, s10, s11, s12, s13, s14, s15, s16, s17, s18, s19, s20, s21, s22, s23⟩
                      go_simp
                      with_reducible rfl
                    rotate_left
                    · simp only [Act.put, List.setIfInBounds_toArray, List.set_cons_zero, List.set_cons_succ, i64_w, i32_w]
                      rfl
                    refine take_ (i := 6) (N := some 55) (v := ?_) (a' := ?_) #[true, true, true, true, true, true, true, true, false, false, false, false] rfl rfl (take_ofW HT_.out HW_.out (by kernel_rfl)) (fun _ _ _ h => h) (Or.inl ⟨by rfl, ?_⟩) hHeld ?_ ?_
                    rotate_left
                    · rintro w' ⟨s0, s1, s2, s3, s4, s5, s6, s7, s8, s9, s10, s11, s12, s13, s14, s15, s16, s17, s18, s19, s20, s21, s22, s23⟩
                      go_simp
                      with_reducible rfl
                    rotate_left
                    · simp only [Act.put, List.setIfInBounds_toArray, List.set_cons_zero, List.set_cons_succ, i64_w, i32_w]
                      rfl
                    refine pure_ (i := 8) (N := some 57) (v := ?_) (a' := ?_) #[true, true, true, true, true, true, true, true, true, false, false, false] rfl rfl (any_of HT_.out (by kernel_rfl)) (fun _ _ _ h => h) (Or.inl ⟨by rfl, ?_⟩) ?_ ?_
                    rotate_left
                    · intro w'
                      go_simp
                      with_reducible rfl
                    rotate_left
                    · simp only [Act.put, List.setIfInBounds_toArray, List.set_cons_zero, List.set_cons_succ, i64_w, i32_w]
                      rfl
                    refine take_ (i := 9) (N := some 58) (v := ?_) (a' := ?_) #[true, true, true, true, true, true, true, true, true, true, false, false] rfl rfl (take_ofW HT_.out HW_.out (by kernel_rfl)) (fun _ _ _ h => h) (Or.inl ⟨by rfl, ?_⟩) hHeld ?_ ?_
                    rotate_left
                    · rintro w' ⟨s0, s1, s2, s3, s4, s5, s6, s7, s8, s9, s10, s11, s12, s13, s14, s15, s16, s17, s18, s19, s20, s21, s22, s23⟩
                      go_simp
                      with_reducible rfl
                    rotate_left
                    · simp only [Act.put, List.setIfInBounds_toArray, List.set_cons_zero, List.set_cons_succ, i64_w, i32_w]
                      rfl
                    refine one_ (i := 10) (N := some 59) #[true, true, true, true, true, true, true, true, true, true, true, false] rfl rfl (one_of HT_.out (by kernel_rfl)) (by decide) (fun K hK => ?_)
                    refine goes_ Try.func33 (by kernel_rfl) rfl #[.agg #[.int .i64 ((rd_T45 l0_5 x5_2).f0), .bool ((rd_T45 l0_5 x5_2).f1.f0), .slice A257_2 ((rd_T45 l0_5 x5_2).f1.f1).length c257_2, .string ((rd_T45 l0_5 x5_2).f2), .int .i64 ((rd_T45 l0_5 x5_2).f3), .slice A257_5 ((rd_T45 l0_5 x5_2).f4).length c257_5], .agg #[.int .i64 ((rd_T45 l1_5 x5_2).f0), .bool ((rd_T45 l1_5 x5_2).f1.f0), .slice A258_2 ((rd_T45 l1_5 x5_2).f1.f1).length c258_2, .string ((rd_T45 l1_5 x5_2).f2), .int .i64 ((rd_T45 l1_5 x5_2).f3), .slice A258_5 ((rd_T45 l1_5 x5_2).f4).length c258_5]] (by rfl) rfl rfl (by (try simp only [List.map_toArray, List.map_cons, List.map_nil]); first | done | rfl | (simp only [List.length_drop, List.length_take]; rfl)) ?_
                    with_reducible refine (ih k2 (by have := HJ2.out; have := HK2.out; omega) ((rd_T45 l0_5 x5_2).f0) ((rd_T45 l0_5 x5_2).f1.f0) _ _ ((rd_T45 l0_5 x5_2).f1.f1) ((rd_T45 l0_5 x5_2).f2) ((rd_T45 l0_5 x5_2).f3) _ _ ((rd_T45 l0_5 x5_2).f4) ((rd_T45 l1_5 x5_2).f0) ((rd_T45 l1_5 x5_2).f1.f0) _ _ ((rd_T45 l1_5 x5_2).f1.f1) ((rd_T45 l1_5 x5_2).f2) ((rd_T45 l1_5 x5_2).f3) _ _ ((rd_T45 l1_5 x5_2).f4) true _ ?side1 ?side2 ?side3 ?side4 ?side5 ?side6 ?side7 ?side8 A40.out).mono ?_
                    (case side1 => repeat (first | exact (Kd.C_below HR257_2.out HB.out) | (with_reducible refine Kd.C_alloc ?_ _) | (with_reducible refine Kd.C_drewN ?_ _) | (with_reducible refine Kd.C_drew ?_)))
                    (case side2 => exact HC257_2.out)
                    (case side3 => repeat (first | exact (Kd.C_below HR257_5.out HB.out) | (with_reducible refine Kd.C_alloc ?_ _) | (with_reducible refine Kd.C_drewN ?_ _) | (with_reducible refine Kd.C_drew ?_)))
                    (case side4 => exact HC257_5.out)
                    (case side5 => repeat (first | exact (Kd.C_below HR258_2.out HB.out) | (with_reducible refine Kd.C_alloc ?_ _) | (with_reducible refine Kd.C_drewN ?_ _) | (with_reducible refine Kd.C_drew ?_)))
                    (case side6 => exact HC258_2.out)
                    (case side7 => repeat (first | exact (Kd.C_below HR258_5.out HB.out) | (with_reducible refine Kd.C_alloc ?_ _) | (with_reducible refine Kd.C_drewN ?_ _) | (with_reducible refine Kd.C_drew ?_)))
                    (case side8 => exact HC258_5.out)
                    rintro e w45 ⟨rfl, hb⟩
                    refine ⟨_, rfl, ?_⟩
                    have n0_ := Aside0.mk (blk_below (g := gb254) (o := .cells #[.int .i64 a0_0, .bool a0_1, .slice A0_2 l0_2.length c0_2, .string a0_3, .int .i64 a0_4, .slice (some ad257) l0_5.length c0_5] 45 (0, 0)) (by (with_reducible repeat (first | refine blk_drewN ?_ _ | refine blk_drew ?_ | refine blk_alloc ?_ _)); exact BK254.out) hb)
                    have n1_ := Aside0.mk (blk_below (g := gb255) (o := .cells #[.int .i64 a1_0, .bool a1_1, .slice A1_2 l1_2.length c1_2, .string a1_3, .int .i64 a1_4, .slice (some ad258) l1_5.length c1_5] 45 (0, 0)) (by (with_reducible repeat (first | refine blk_drewN ?_ _ | refine blk_drew ?_ | refine blk_alloc ?_ _)); exact BK255.out) hb)
                    have n2_ := Aside0.mk (below_step (by repeat (first | (with_reducible first | exact HB.out | apply below_alloc | apply pw_below_drewN | apply below_drew1 | refine below_set ?_ GE254.out | refine below_set ?_ GE255.out) | exact HB.out)) hb)
                    clear BK254
                    clear BK255
                    clear HB
                    have BK254 := n0_
                    have BK255 := n1_
                    have HB := n2_
                    clear n0_ n1_ n2_
                    (try clear hb)
                    (try clear hb2)
                    (try clear hk)
                    (try clear hi)
                    refine hK.out _ _ ⟨(blk_cell BK254.out 0).trans rfl, (blk_cell BK254.out 1).trans rfl, (blk_cell BK254.out 2).trans rfl, (blk_cell BK254.out 3).trans rfl, (blk_cell BK254.out 4).trans rfl, (blk_cell BK254.out 5).trans rfl, (blk_cell BK255.out 0).trans rfl, (blk_cell BK255.out 1).trans rfl, (blk_cell BK255.out 2).trans rfl, (blk_cell BK255.out 3).trans rfl, (blk_cell BK255.out 4).trans rfl, (blk_cell BK255.out 5).trans rfl, ((HB.out.cell (World.block_lt_of_cell? w _ hw257_0)).trans hw257_0), ((HB.out.cell (World.block_lt_of_cell? w _ hw257_1)).trans hw257_1), ((HB.out.cell (World.block_lt_of_cell? w _ hw257_2)).trans hw257_2), ((HB.out.cell (World.block_lt_of_cell? w _ hw257_3)).trans hw257_3), ((HB.out.cell (World.block_lt_of_cell? w _ hw257_4)).trans hw257_4), ((HB.out.cell (World.block_lt_of_cell? w _ hw257_5)).trans hw257_5), ((HB.out.cell (World.block_lt_of_cell? w _ hw258_0)).trans hw258_0), ((HB.out.cell (World.block_lt_of_cell? w _ hw258_1)).trans hw258_1), ((HB.out.cell (World.block_lt_of_cell? w _ hw258_2)).trans hw258_2), ((HB.out.cell (World.block_lt_of_cell? w _ hw258_3)).trans hw258_3), ((HB.out.cell (World.block_lt_of_cell? w _ hw258_4)).trans hw258_4), ((HB.out.cell (World.block_lt_of_cell? w _ hw258_5)).trans hw258_5)⟩ (fun hHeld => ?_)
                    clear hK K
                    refine norm_ (a' := ?_) ?_ ?_
                    rotate_left
                    · show Act.put _ (some 59) _ = _
                      simp only [Act.put, List.setIfInBounds_toArray, List.set_cons_zero, List.set_cons_succ, i64_w, i32_w]
                      rfl
                    refine pure_ (i := 11) (N := some 60) (v := ?_) (a' := ?_) #[true, true, true, true, true, true, true, true, true, true, true, true] rfl rfl (any_of HT_.out (by kernel_rfl)) (fun _ _ _ h => h) (Or.inl ⟨by rfl, ?_⟩) ?_ ?_
                    rotate_left
                    · intro w'
                      go_simp
                      with_reducible rfl
                    rotate_left
                    · simp only [Act.put, List.setIfInBounds_toArray, List.set_cons_zero, List.set_cons_succ, i64_w, i32_w]
                      rfl
                    refine done_ (done_of HT_.out (by kernel_rfl)) ?_
                    try go_wp2
                    go_roundg k2
                    case measure => have := HJ2.out; have := HK2.out; omega
                    case rel => exact ⟨(wrap64 (x5_2 + 1)), (by first | rfl | (simp; done) | (simp [*]; done)), H', ⟨by have := HJ2.out; have := HK2.out; omega⟩, ⟨by (with_reducible repeat (first | refine blk_drewN ?_ _ | refine blk_drew ?_ | refine blk_alloc ?_ _)); exact BK254.out⟩, ⟨by (with_reducible repeat (first | refine blk_drewN ?_ _ | refine blk_drew ?_ | refine blk_alloc ?_ _)); exact BK255.out⟩, ⟨by repeat (first | (with_reducible first | exact HB.out | apply below_alloc | apply pw_below_drewN | apply below_drew1 | refine below_set ?_ GE254.out | refine below_set ?_ GE255.out) | exact HB.out)⟩⟩
                  · replace c41 := Bool.eq_false_iff.mpr c41
                    subst c41
                    have H1 : (some false) = some r := by rw [if_neg (show ¬ (false = true) by decide)] at H; exact H
                    clear H
                    have H := H1
                    clear H1
                    obtain rfl := Option.some.inj H
                    have hnb46 := NB254_255.out
                    have hnc46 := NB255_254.out
                    have hcz47_0 : wr.cell? ⟨gb254, 0, none⟩ = some (.int .i64 a0_0) := (blk_cell BK254.out 0).trans rfl
                    have hcz47_1 : wr.cell? ⟨gb254, 1, none⟩ = some (.bool a0_1) := (blk_cell BK254.out 1).trans rfl
                    have hcz47_2 : wr.cell? ⟨gb254, 2, none⟩ = some (.slice A0_2 l0_2.length c0_2) := (blk_cell BK254.out 2).trans rfl
                    have hcz47_3 : wr.cell? ⟨gb254, 3, none⟩ = some (.string a0_3) := (blk_cell BK254.out 3).trans rfl
                    have hcz47_4 : wr.cell? ⟨gb254, 4, none⟩ = some (.int .i64 a0_4) := (blk_cell BK254.out 4).trans rfl
                    have hcz47_5 : wr.cell? ⟨gb254, 5, none⟩ = some (.slice A0_5 l0_5.length c0_5) := (blk_cell BK254.out 5).trans rfl
                    have hfz47_0 := blk_frozen BK254.out 0
                    have hfz47_1 := blk_frozen BK254.out 1
                    have hfz47_2 := blk_frozen BK254.out 2
                    have hfz47_3 := blk_frozen BK254.out 3
                    have hfz47_4 := blk_frozen BK254.out 4
                    have hfz47_5 := blk_frozen BK254.out 5
                    try go_wp2
                    have n0_ := Aside0.mk (blk_drew BK254.out)
                    have n1_ := Aside0.mk (blk_drew BK255.out)
                    have n2_ := Aside0.mk (below_drew1 HB.out)
                    clear BK254
                    clear BK255
                    clear HB
                    have BK254 := n0_
                    have BK255 := n1_
                    have HB := n2_
                    clear n0_ n1_ n2_
                    have p257 : 0 ≤ (x5_2 : Int) := of_decide_eq_true (by first | (with_reducible assumption) | assumption)
                    have q257 : x5_2 < (l0_5.length : Int) := of_decide_eq_true (by first | (with_reducible assumption) | assumption)
                    obtain ⟨ad257, A257_2, c257_2, A257_5, c257_5, e257, hx257_0, hx257_1, hx257_2, hx257_3, hx257_4, hx257_5, hl257_2, hi257_2, hl257_5, hi257_5⟩ := at_T45 HR0_5.out x5_2 p257 q257
                    have hw257_5 := hx257_5
                    have hw257_4 := hx257_4
                    have hw257_3 := hx257_3
                    have hw257_2 := hx257_2
                    have hw257_1 := hx257_1
                    have hw257_0 := hx257_0
                    cases e257
                    replace hx257_0 := (HB.out.cell (World.block_lt_of_cell? w _ hx257_0)).trans hx257_0
                    replace hx257_1 := (HB.out.cell (World.block_lt_of_cell? w _ hx257_1)).trans hx257_1
                    replace hx257_2 := (HB.out.cell (World.block_lt_of_cell? w _ hx257_2)).trans hx257_2
                    replace hx257_3 := (HB.out.cell (World.block_lt_of_cell? w _ hx257_3)).trans hx257_3
                    replace hx257_4 := (HB.out.cell (World.block_lt_of_cell? w _ hx257_4)).trans hx257_4
                    replace hx257_5 := (HB.out.cell (World.block_lt_of_cell? w _ hx257_5)).trans hx257_5
                    have HR257_2 := Aside0.mk hi257_2
                    have HC257_2 := Aside0.mk hl257_2
                    clear hi257_2 hl257_2
                    have HR257_5 := Aside0.mk hi257_5
                    have HC257_5 := Aside0.mk hl257_5
                    clear hi257_5 hl257_5
                    replace p257 := eq_true p257
                    replace q257 := eq_true q257
                    have p258 : 0 ≤ (x5_2 : Int) := of_decide_eq_true (by first | (with_reducible assumption) | assumption)
                    have q258 : x5_2 < (l1_5.length : Int) := of_decide_eq_true (by first | (with_reducible assumption) | assumption)
                    obtain ⟨ad258, A258_2, c258_2, A258_5, c258_5, e258, hx258_0, hx258_1, hx258_2, hx258_3, hx258_4, hx258_5, hl258_2, hi258_2, hl258_5, hi258_5⟩ := at_T45 HR1_5.out x5_2 p258 q258
                    have hw258_5 := hx258_5
                    have hw258_4 := hx258_4
                    have hw258_3 := hx258_3
                    have hw258_2 := hx258_2
                    have hw258_1 := hx258_1
                    have hw258_0 := hx258_0
                    cases e258
                    replace hx258_0 := (HB.out.cell (World.block_lt_of_cell? w _ hx258_0)).trans hx258_0
                    replace hx258_1 := (HB.out.cell (World.block_lt_of_cell? w _ hx258_1)).trans hx258_1
                    replace hx258_2 := (HB.out.cell (World.block_lt_of_cell? w _ hx258_2)).trans hx258_2
                    replace hx258_3 := (HB.out.cell (World.block_lt_of_cell? w _ hx258_3)).trans hx258_3
                    replace hx258_4 := (HB.out.cell (World.block_lt_of_cell? w _ hx258_4)).trans hx258_4
                    replace hx258_5 := (HB.out.cell (World.block_lt_of_cell? w _ hx258_5)).trans hx258_5
                    have HR258_2 := Aside0.mk hi258_2
                    have HC258_2 := Aside0.mk hl258_2
                    clear hi258_2 hl258_2
                    have HR258_5 := Aside0.mk hi258_5
                    have HC258_5 := Aside0.mk hl258_5
                    clear hi258_5 hl258_5
                    replace p258 := eq_true p258
                    replace q258 := eq_true q258
                    refine start_ (n := 12) (S := fun w' => w'.cell? ⟨gb254, 0, none⟩ = some (.int .i64 a0_0) ∧ w'.cell? ⟨gb254, 1, none⟩ = some (.bool a0_1) ∧ w'.cell? ⟨gb254, 2, none⟩ = some (.slice A0_2 l0_2.length c0_2) ∧ w'.cell? ⟨gb254, 3, none⟩ = some (.string a0_3) ∧ w'.cell? ⟨gb254, 4, none⟩ = some (.int .i64 a0_4) ∧ w'.cell? ⟨gb254, 5, none⟩ = some (.slice (some ad257) l0_5.length c0_5) ∧ w'.cell? ⟨gb255, 0, none⟩ = some (.int .i64 a1_0) ∧ w'.cell? ⟨gb255, 1, none⟩ = some (.bool a1_1) ∧ w'.cell? ⟨gb255, 2, none⟩ = some (.slice A1_2 l1_2.length c1_2) ∧ w'.cell? ⟨gb255, 3, none⟩ = some (.string a1_3) ∧ w'.cell? ⟨gb255, 4, none⟩ = some (.int .i64 a1_4) ∧ w'.cell? ⟨gb255, 5, none⟩ = some (.slice (some ad258) l1_5.length c1_5) ∧ w'.cell? (ad257.add ((x5_2).toNat * 6)) = some (.int .i64 ((rd_T45 l0_5 x5_2).f0)) ∧ w'.cell? ⟨(ad257.add ((x5_2).toNat * 6)).block, (ad257.add ((x5_2).toNat * 6)).off + 1, none⟩ = some (.bool ((rd_T45 l0_5 x5_2).f1.f0)) ∧ w'.cell? ⟨(ad257.add ((x5_2).toNat * 6)).block, (ad257.add ((x5_2).toNat * 6)).off + 2, none⟩ = some (.slice A257_2 ((rd_T45 l0_5 x5_2).f1.f1).length c257_2) ∧ w'.cell? ⟨(ad257.add ((x5_2).toNat * 6)).block, (ad257.add ((x5_2).toNat * 6)).off + 3, none⟩ = some (.string ((rd_T45 l0_5 x5_2).f2)) ∧ w'.cell? ⟨(ad257.add ((x5_2).toNat * 6)).block, (ad257.add ((x5_2).toNat * 6)).off + 4, none⟩ = some (.int .i64 ((rd_T45 l0_5 x5_2).f3)) ∧ w'.cell? ⟨(ad257.add ((x5_2).toNat * 6)).block, (ad257.add ((x5_2).toNat * 6)).off + 5, none⟩ = some (.slice A257_5 ((rd_T45 l0_5 x5_2).f4).length c257_5) ∧ w'.cell? (ad258.add ((x5_2).toNat * 6)) = some (.int .i64 ((rd_T45 l1_5 x5_2).f0)) ∧ w'.cell? ⟨(ad258.add ((x5_2).toNat * 6)).block, (ad258.add ((x5_2).toNat * 6)).off + 1, none⟩ = some (.bool ((rd_T45 l1_5 x5_2).f1.f0)) ∧ w'.cell? ⟨(ad258.add ((x5_2).toNat * 6)).block, (ad258.add ((x5_2).toNat * 6)).off + 2, none⟩ = some (.slice A258_2 ((rd_T45 l1_5 x5_2).f1.f1).length c258_2) ∧ w'.cell? ⟨(ad258.add ((x5_2).toNat * 6)).block, (ad258.add ((x5_2).toNat * 6)).off + 3, none⟩ = some (.string ((rd_T45 l1_5 x5_2).f2)) ∧ w'.cell? ⟨(ad258.add ((x5_2).toNat * 6)).block, (ad258.add ((x5_2).toNat * 6)).off + 4, none⟩ = some (.int .i64 ((rd_T45 l1_5 x5_2).f3)) ∧ w'.cell? ⟨(ad258.add ((x5_2).toNat * 6)).block, (ad258.add ((x5_2).toNat * 6)).off + 5, none⟩ = some (.slice A258_5 ((rd_T45 l1_5 x5_2).f4).length c258_5)) (ds := []) #[false, false, false, false, false, false, false, false, false, false, false, false] (by kernel_rfl) rfl rfl ⟨(blk_cell BK254.out 0).trans rfl, (blk_cell BK254.out 1).trans rfl, (blk_cell BK254.out 2).trans rfl, (blk_cell BK254.out 3).trans rfl, (blk_cell BK254.out 4).trans rfl, (blk_cell BK254.out 5).trans rfl, (blk_cell BK255.out 0).trans rfl, (blk_cell BK255.out 1).trans rfl, (blk_cell BK255.out 2).trans rfl, (blk_cell BK255.out 3).trans rfl, (blk_cell BK255.out 4).trans rfl, (blk_cell BK255.out 5).trans rfl, ((HB.out.cell (World.block_lt_of_cell? w _ hw257_0)).trans hw257_0), ((HB.out.cell (World.block_lt_of_cell? w _ hw257_1)).trans hw257_1), ((HB.out.cell (World.block_lt_of_cell? w _ hw257_2)).trans hw257_2), ((HB.out.cell (World.block_lt_of_cell? w _ hw257_3)).trans hw257_3), ((HB.out.cell (World.block_lt_of_cell? w _ hw257_4)).trans hw257_4), ((HB.out.cell (World.block_lt_of_cell? w _ hw257_5)).trans hw257_5), ((HB.out.cell (World.block_lt_of_cell? w _ hw258_0)).trans hw258_0), ((HB.out.cell (World.block_lt_of_cell? w _ hw258_1)).trans hw258_1), ((HB.out.cell (World.block_lt_of_cell? w _ hw258_2)).trans hw258_2), ((HB.out.cell (World.block_lt_of_cell? w _ hw258_3)).trans hw258_3), ((HB.out.cell (World.block_lt_of_cell? w _ hw258_4)).trans hw258_4), ((HB.out.cell (World.block_lt_of_cell? w _ hw258_5)).trans hw258_5)⟩ (fun hHeld => ?_); refine with_tabW relictlaw00_SameTerm.tab6 relictlaw00_SameTerm.bits6 (fun HT_ HW_ => ?_)
                    generalize wr.drew = w48 at BK254 BK255 HB HR257_2 HR257_5 HR258_2 HR258_5 hx257_0 hx257_1 hx257_2 hx257_3 hx257_4 hx257_5 hx258_0 hx258_1 hx258_2 hx258_3 hx258_4 hx258_5 hHeld ⊢
                    refine pure_ (i := 0) (N := some 49) (v := ?_) (a' := ?_) #[true, false, false, false, false, false, false, false, false, false, false, false] rfl rfl (any_of HT_.out (by kernel_rfl)) (fun _ _ _ h => h) (Or.inl ⟨by rfl, ?_⟩) ?_ ?_
                    rotate_left
                    · intro w'
                      go_simp
                      with_reducible rfl
                    rotate_left
                    · simp only [Act.put, List.setIfInBounds_toArray, List.set_cons_zero, List.set_cons_succ, i64_w, i32_w]
                      rfl
                    refine pure_ (i := 2) (N := some 51) (v := ?_) (a' := ?_) #[true, false, true, false, false, false, false, false, false, false, false, false] rfl rfl (any_of HT_.out (by kernel_rfl)) (fun _ _ _ h => h) (Or.inl ⟨by rfl, ?_⟩) ?_ ?_
                    rotate_left
                    · intro w'
                      go_simp
                      with_reducible rfl
                    rotate_left
                    · simp only [Act.put, List.setIfInBounds_toArray, List.set_cons_zero, List.set_cons_succ, i64_w, i32_w]
                      rfl
                    refine pure_ (i := 5) (N := some 54) (v := ?_) (a' := ?_) #[true, false, true, false, false, true, false, false, false, false, false, false] rfl rfl (any_of HT_.out (by kernel_rfl)) (fun _ _ _ h => h) (Or.inl ⟨by rfl, ?_⟩) ?_ ?_
                    rotate_left
                    · intro w'
                      go_simp
                      with_reducible rfl
                    rotate_left
                    · simp only [Act.put, List.setIfInBounds_toArray, List.set_cons_zero, List.set_cons_succ, i64_w, i32_w]
                      rfl
                    refine pure_ (i := 7) (N := some 56) (v := ?_) (a' := ?_) #[true, false, true, false, false, true, false, true, false, false, false, false] rfl rfl (any_of HT_.out (by kernel_rfl)) (fun _ _ _ h => h) (Or.inl ⟨by rfl, ?_⟩) ?_ ?_
                    rotate_left
                    · intro w'
                      go_simp
                      with_reducible rfl
                    rotate_left
                    · simp only [Act.put, List.setIfInBounds_toArray, List.set_cons_zero, List.set_cons_succ, i64_w, i32_w]
                      rfl
                    refine take_ (i := 1) (N := some 50) (v := ?_) (a' := ?_) #[true, true, true, false, false, true, false, true, false, false, false, false] rfl rfl (take_ofW HT_.out HW_.out (by kernel_rfl)) (fun _ _ _ h => h) (Or.inl ⟨by rfl, ?_⟩) hHeld ?_ ?_
                    rotate_left
                    · rintro w' ⟨s0, s1, s2, s3, s4, s5, s6, s7, s8, s9, s10, s11, s12, s13, s14, s15, s16, s17, s18, s19, s20, s21, s22, s23⟩
                      go_simp
                      with_reducible rfl
                    rotate_left
                    · simp only [Act.put, List.setIfInBounds_toArray, List.set_cons_zero, List.set_cons_succ, i64_w, i32_w]
                      rfl
                    refine pure_ (i := 3) (N := some 52) (v := ?_) (a' := ?_) #[true, true, true, true, false, true, false, true, false, false, false, false] rfl rfl (any_of HT_.out (by kernel_rfl)) (fun _ _ _ h => h) (Or.inl ⟨by rfl, ?_⟩) ?_ ?_
                    rotate_left
                    · intro w'
                      go_simp
                      with_reducible rfl
                    rotate_left
                    · simp only [Act.put, List.setIfInBounds_toArray, List.set_cons_zero, List.set_cons_succ, i64_w, i32_w]
                      rfl
                    refine take_ (i := 4) (N := some 53) (v := ?_) (a' := ?_) #[true, true, true, true, true, true, false, true, false, false, false, false] rfl rfl (take_ofW HT_.out HW_.out (by kernel_rfl)) (fun _ _ _ h => h) (Or.inl ⟨by rfl, ?_⟩) hHeld ?_ ?_
                    rotate_left
                    · rintro w' ⟨s0, s1, s2, s3, s4, s5, s6, s7, s8, s9, s10, s11, s12, s13, s14, s15, s16, s17, s18, s19, s20, s21, s22, s23⟩
                      go_simp
                      with_reducible rfl
                    rotate_left
                    · simp only [Act.put, List.setIfInBounds_toArray, List.set_cons_zero, List.set_cons_succ, i64_w, i32_w]
                      rfl
                    refine take_ (i := 6) (N := some 55) (v := ?_) (a' := ?_) #[true, true, true, true, true, true, true, true, false, false, false, false] rfl rfl (take_ofW HT_.out HW_.out (by kernel_rfl)) (fun _ _ _ h => h) (Or.inl ⟨by rfl, ?_⟩) hHeld ?_ ?_
                    rotate_left
                    · rintro w' ⟨s0, s1, s2, s3, s4, s5, s6, s7, s8, s9, s10, s11, s12, s13, s14, s15, s16, s17, s18, s19, s20, s21, s22, s23⟩
                      go_simp
                      with_reducible rfl
                    rotate_left
                    · simp only [Act.put, List.setIfInBounds_toArray, List.set_cons_zero, List.set_cons_succ, i64_w, i32_w]
                      rfl
                    refine pure_ (i := 8) (N := some 57) (v := ?_) (a' := ?_) #[true, true, true, true, true, true, true, true, true, false, false, false] rfl rfl (any_of HT_.out (by kernel_rfl)) (fun _ _ _ h => h) (Or.inl ⟨by rfl, ?_⟩) ?_ ?_
                    rotate_left
                    · intro w'
                      go_simp
                      with_reducible rfl
                    rotate_left
                    · simp only [Act.put, List.setIfInBounds_toArray, List.set_cons_zero, List.set_cons_succ, i64_w, i32_w]
                      rfl
                    refine take_ (i := 9) (N := some 58) (v := ?_) (a' := ?_) #[true, true, true, true, true, true, true, true, true, true, false, false] rfl rfl (take_ofW HT_.out HW_.out (by kernel_rfl)) (fun _ _ _ h => h) (Or.inl ⟨by rfl, ?_⟩) hHeld ?_ ?_
                    rotate_left
                    · rintro w' ⟨s0, s1, s2, s3, s4, s5, s6, s7, s8, s9, s10, s11, s12, s13, s14, s15, s16, s17, s18, s19, s20, s21, s22, s23⟩
                      go_simp
                      with_reducible rfl
                    rotate_left
                    · simp only [Act.put, List.setIfInBounds_toArray, List.set_cons_zero, List.set_cons_succ, i64_w, i32_w]
                      rfl
                    refine one_ (i := 10) (N := some 59) #[true, true, true, true, true, true, true, true, true, true, true, false] rfl rfl (one_of HT_.out (by kernel_rfl)) (by decide) (fun K hK => ?_)
                    refine goes_ Try.func33 (by kernel_rfl) rfl #[.agg #[.int .i64 ((rd_T45 l0_5 x5_2).f0), .bool ((rd_T45 l0_5 x5_2).f1.f0), .slice A257_2 ((rd_T45 l0_5 x5_2).f1.f1).length c257_2, .string ((rd_T45 l0_5 x5_2).f2), .int .i64 ((rd_T45 l0_5 x5_2).f3), .slice A257_5 ((rd_T45 l0_5 x5_2).f4).length c257_5], .agg #[.int .i64 ((rd_T45 l1_5 x5_2).f0), .bool ((rd_T45 l1_5 x5_2).f1.f0), .slice A258_2 ((rd_T45 l1_5 x5_2).f1.f1).length c258_2, .string ((rd_T45 l1_5 x5_2).f2), .int .i64 ((rd_T45 l1_5 x5_2).f3), .slice A258_5 ((rd_T45 l1_5 x5_2).f4).length c258_5]] (by rfl) rfl rfl (by (try simp only [List.map_toArray, List.map_cons, List.map_nil]); first | done | rfl | (simp only [List.length_drop, List.length_take]; rfl)) ?_
                    with_reducible refine (ih k2 (by have := HJ2.out; have := HK2.out; omega) ((rd_T45 l0_5 x5_2).f0) ((rd_T45 l0_5 x5_2).f1.f0) _ _ ((rd_T45 l0_5 x5_2).f1.f1) ((rd_T45 l0_5 x5_2).f2) ((rd_T45 l0_5 x5_2).f3) _ _ ((rd_T45 l0_5 x5_2).f4) ((rd_T45 l1_5 x5_2).f0) ((rd_T45 l1_5 x5_2).f1.f0) _ _ ((rd_T45 l1_5 x5_2).f1.f1) ((rd_T45 l1_5 x5_2).f2) ((rd_T45 l1_5 x5_2).f3) _ _ ((rd_T45 l1_5 x5_2).f4) false _ ?side1 ?side2 ?side3 ?side4 ?side5 ?side6 ?side7 ?side8 A40.out).mono ?_
                    (case side1 => repeat (first | exact (Kd.C_below HR257_2.out HB.out) | (with_reducible refine Kd.C_alloc ?_ _) | (with_reducible refine Kd.C_drewN ?_ _) | (with_reducible refine Kd.C_drew ?_)))
                    (case side2 => exact HC257_2.out)
                    (case side3 => repeat (first | exact (Kd.C_below HR257_5.out HB.out) | (with_reducible refine Kd.C_alloc ?_ _) | (with_reducible refine Kd.C_drewN ?_ _) | (with_reducible refine Kd.C_drew ?_)))
                    (case side4 => exact HC257_5.out)
                    (case side5 => repeat (first | exact (Kd.C_below HR258_2.out HB.out) | (with_reducible refine Kd.C_alloc ?_ _) | (with_reducible refine Kd.C_drewN ?_ _) | (with_reducible refine Kd.C_drew ?_)))
                    (case side6 => exact HC258_2.out)
                    (case side7 => repeat (first | exact (Kd.C_below HR258_5.out HB.out) | (with_reducible refine Kd.C_alloc ?_ _) | (with_reducible refine Kd.C_drewN ?_ _) | (with_reducible refine Kd.C_drew ?_)))
                    (case side8 => exact HC258_5.out)
                    rintro e w49 ⟨rfl, hb⟩
                    refine ⟨_, rfl, ?_⟩
                    have n0_ := Aside0.mk (blk_below (g := gb254) (o := .cells #[.int .i64 a0_0, .bool a0_1, .slice A0_2 l0_2.length c0_2, .string a0_3, .int .i64 a0_4, .slice (some ad257) l0_5.length c0_5] 45 (0, 0)) (by (with_reducible repeat (first | refine blk_drewN ?_ _ | refine blk_drew ?_ | refine blk_alloc ?_ _)); exact BK254.out) hb)
                    have n1_ := Aside0.mk (blk_below (g := gb255) (o := .cells #[.int .i64 a1_0, .bool a1_1, .slice A1_2 l1_2.length c1_2, .string a1_3, .int .i64 a1_4, .slice (some ad258) l1_5.length c1_5] 45 (0, 0)) (by (with_reducible repeat (first | refine blk_drewN ?_ _ | refine blk_drew ?_ | refine blk_alloc ?_ _)); exact BK255.out) hb)
                    have n2_ := Aside0.mk (below_step (by repeat (first | (with_reducible first | exact HB.out | apply below_alloc | apply pw_below_drewN | apply below_drew1 | refine below_set ?_ GE254.out | refine below_set ?_ GE255.out) | exact HB.out)) hb)
                    clear BK254
                    clear BK255
                    clear HB
                    have BK254 := n0_
                    have BK255 := n1_
                    have HB := n2_
                    clear n0_ n1_ n2_
                    (try clear hb)
                    (try clear hb2)
                    (try clear hk)
                    (try clear hi)
                    refine hK.out _ _ ⟨(blk_cell BK254.out 0).trans rfl, (blk_cell BK254.out 1).trans rfl, (blk_cell BK254.out 2).trans rfl, (blk_cell BK254.out 3).trans rfl, (blk_cell BK254.out 4).trans rfl, (blk_cell BK254.out 5).trans rfl, (blk_cell BK255.out 0).trans rfl, (blk_cell BK255.out 1).trans rfl, (blk_cell BK255.out 2).trans rfl, (blk_cell BK255.out 3).trans rfl, (blk_cell BK255.out 4).trans rfl, (blk_cell BK255.out 5).trans rfl, ((HB.out.cell (World.block_lt_of_cell? w _ hw257_0)).trans hw257_0), ((HB.out.cell (World.block_lt_of_cell? w _ hw257_1)).trans hw257_1), ((HB.out.cell (World.block_lt_of_cell? w _ hw257_2)).trans hw257_2), ((HB.out.cell (World.block_lt_of_cell? w _ hw257_3)).trans hw257_3), ((HB.out.cell (World.block_lt_of_cell? w _ hw257_4)).trans hw257_4), ((HB.out.cell (World.block_lt_of_cell? w _ hw257_5)).trans hw257_5), ((HB.out.cell (World.block_lt_of_cell? w _ hw258_0)).trans hw258_0), ((HB.out.cell (World.block_lt_of_cell? w _ hw258_1)).trans hw258_1), ((HB.out.cell (World.block_lt_of_cell? w _ hw258_2)).trans hw258_2), ((HB.out.cell (World.block_lt_of_cell? w _ hw258_3)).trans hw258_3), ((HB.out.cell (World.block_lt_of_cell? w _ hw258_4)).trans hw258_4), ((HB.out.cell (World.block_lt_of_cell? w _ hw258_5)).trans hw258_5)⟩ (fun hHeld => ?_)
                    clear hK K
                    refine norm_ (a' := ?_) ?_ ?_
                    rotate_left
                    · show Act.put _ (some 59) _ = _
                      simp only [Act.put, List.setIfInBounds_toArray, List.set_cons_zero, List.set_cons_succ, i64_w, i32_w]
                      rfl
                    refine pure_ (i := 11) (N := some 60) (v := ?_) (a' := ?_) #[true, true, true, true, true, true, true, true, true, true, true, true] rfl rfl (any_of HT_.out (by kernel_rfl)) (fun _ _ _ h => h) (Or.inl ⟨by rfl, ?_⟩) ?_ ?_
                    rotate_left
                    · intro w'
                      go_simp
                      with_reducible rfl
                    rotate_left
                    · simp only [Act.put, List.setIfInBounds_toArray, List.set_cons_zero, List.set_cons_succ, i64_w, i32_w]
                      rfl
                    refine done_ (done_of HT_.out (by kernel_rfl)) ?_
                    try go_wp2
                    go_ret
                    exact ⟨by first | rfl | (simp [errW_none, errW_some] <;> rfl) | (simp [*, errW_none, errW_some] <;> rfl), by repeat (first | (with_reducible first | exact HB.out | apply below_alloc | apply pw_below_drewN | apply below_drew1 | refine below_set ?_ GE254.out | refine below_set ?_ GE255.out) | exact HB.out)⟩
                · rw [if_neg c39] at H
                  exact absurd H (by simp)
              · rw [if_neg c38] at H
                exact absurd H (by simp)
            · rw [if_neg c37] at H
              have c37b0 : decide (x5_2 < (l0_5.length : Int)) = false := decide_eq_false c37
              clear c37
              obtain rfl := Option.some.inj H
              have hnb50 := NB254_255.out
              have hnc50 := NB255_254.out
              have hcz51_0 : wr.cell? ⟨gb254, 0, none⟩ = some (.int .i64 a0_0) := (blk_cell BK254.out 0).trans rfl
              have hcz51_1 : wr.cell? ⟨gb254, 1, none⟩ = some (.bool a0_1) := (blk_cell BK254.out 1).trans rfl
              have hcz51_2 : wr.cell? ⟨gb254, 2, none⟩ = some (.slice A0_2 l0_2.length c0_2) := (blk_cell BK254.out 2).trans rfl
              have hcz51_3 : wr.cell? ⟨gb254, 3, none⟩ = some (.string a0_3) := (blk_cell BK254.out 3).trans rfl
              have hcz51_4 : wr.cell? ⟨gb254, 4, none⟩ = some (.int .i64 a0_4) := (blk_cell BK254.out 4).trans rfl
              have hcz51_5 : wr.cell? ⟨gb254, 5, none⟩ = some (.slice A0_5 l0_5.length c0_5) := (blk_cell BK254.out 5).trans rfl
              have hfz51_0 := blk_frozen BK254.out 0
              have hfz51_1 := blk_frozen BK254.out 1
              have hfz51_2 := blk_frozen BK254.out 2
              have hfz51_3 := blk_frozen BK254.out 3
              have hfz51_4 := blk_frozen BK254.out 4
              have hfz51_5 := blk_frozen BK254.out 5
              go_wp2
              go_ret
              exact ⟨by first | rfl | (simp [errW_none, errW_some] <;> rfl) | (simp [*, errW_none, errW_some] <;> rfl), by repeat (first | (with_reducible first | exact HB.out | apply below_alloc | apply pw_below_drewN | apply below_drew1 | refine below_set ?_ GE254.out | refine below_set ?_ GE255.out) | exact HB.out)⟩

end Go.Proofs.Ythdmacdeefohkaa.PMa
