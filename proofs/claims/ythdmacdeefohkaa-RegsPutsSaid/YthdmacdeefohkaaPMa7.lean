-- Printed by the kit's print.py from a list of bodies that this session turned in four places; parts of it are this session's own.
import Derived.Test.YthdmacdeefohkaaPMa0
import Derived.Test.YthdmacdeefohkaaPMa6
namespace Go.Proofs.Ythdmacdeefohkaa.PMa
open Go.RowKit Go.Proofs.YthdmacdeefohkaaW.PrintWords Go.Proofs.YthdmacdeefohkaaW.PrintLast Go.Proofs.YthdmacdeefohkaaW.PrintMore
attribute [local go_sem] max2_int min2_int max_two min_two max_three min_three max_four min_four   -- for this text's walks alone
set_option linter.unusedVariables false
set_option linter.unusedSimpArgs false

/-! ### relictlaw00_Term: function 39 -/
mutual
def relictlaw00_Term.l0 : Nat → Int → Int → Bool → List Int → ByteArray → Int → List (S45) → Int → Bool → List Int → ByteArray → Int → List (S45) → Option (Int × Bool × List Int × ByteArray × Int × (List (S45)))
  | 0, _, _, _, _, _, _, _, _, _, _, _, _, _ => none
  | k + 1, x4, x389000, x389001, x389002, x389003, x389004, x389005, x395000, x395001, x395002, x395003, x395004, x395005 => if x4 < (x389005.length : Int) then (if 0 ≤ x4 then ((relictlaw00_Term.f k ((rd_T45 x389005 x4).f0) ((rd_T45 x389005 x4).f1.f0) ((rd_T45 x389005 x4).f1.f1) ((rd_T45 x389005 x4).f2) ((rd_T45 x389005 x4).f3) ((rd_T45 x389005 x4).f4)).bind fun bt396 => (if x395005.length < 1599289640401 then (relictlaw00_Term.l0 k (wrap64 (x4 + 1)) x389000 x389001 x389002 x389003 x389004 x389005 x395000 x395001 x395002 x395003 x395004 (x395005 ++ [(⟨bt396.1, (⟨bt396.2.1, bt396.2.2.1⟩ : S42), bt396.2.2.2.1, bt396.2.2.2.2.1, bt396.2.2.2.2.2⟩ : S45)])) else (none))) else (none)) else (some (x395000, x395001, x395002, x395003, x395004, x395005))
def relictlaw00_Term.f : Nat → Int → Bool → List Int → ByteArray → Int → List (S45) → Option (Int × Bool × List Int × ByteArray × Int × (List (S45)))
  | 0, _, _, _, _, _, _ => none
  | k + 1, a0_0, a0_1, l0_2, a0_3, a0_4, l0_5 => (relictlaw00_Num.f a0_1 l0_2).bind fun bt390 => (relictlaw00_Term.l0 k 0 a0_0 a0_1 l0_2 a0_3 a0_4 l0_5 a0_0 bt390.1 bt390.2 a0_3 a0_4 ([] : List (S45)))
end
theorem relictlaw00_Term.mono_l : ∀ k, (∀ y0 y1 y2 y3 y4 y5, LeO (relictlaw00_Term.f k y0 y1 y2 y3 y4 y5) (relictlaw00_Term.f (k + 1) y0 y1 y2 y3 y4 y5)) ∧ (∀ y0 y1 y2 y3 y4 y5 y6 y7 y8 y9 y10 y11 y12, LeO (relictlaw00_Term.l0 k y0 y1 y2 y3 y4 y5 y6 y7 y8 y9 y10 y11 y12) (relictlaw00_Term.l0 (k + 1) y0 y1 y2 y3 y4 y5 y6 y7 y8 y9 y10 y11 y12))
  | 0 => ⟨fun _ _ _ _ _ _ r h => by simp [relictlaw00_Term.f] at h, fun _ _ _ _ _ _ _ _ _ _ _ _ _ r h => by simp [relictlaw00_Term.l0] at h⟩
  | k + 1 => by
    obtain ⟨ih0, ih1⟩ := relictlaw00_Term.mono_l k
    refine ⟨?_, ?_⟩
    · intro y0 y1 y2 y3 y4 y5
      unfold relictlaw00_Term.f
      repeat' first
      | (with_reducible exact ih0 _ _ _ _ _ _)
      | (with_reducible exact ih1 _ _ _ _ _ _ _ _ _ _ _ _ _)
      | (with_reducible exact LeO.refl _)
      | (with_reducible exact LeO.none _)
      | (with_reducible refine LeO.ite ?_ ?_)
      | (with_reducible refine LeO.bind ?_ (fun _ => ?_))
      | exact ih0 _ _ _ _ _ _
      | exact ih1 _ _ _ _ _ _ _ _ _ _ _ _ _
      | exact LeO.none _
      | refine LeO.ite ?_ ?_
      | refine LeO.bind ?_ (fun _ => ?_)
    · intro y0 y1 y2 y3 y4 y5 y6 y7 y8 y9 y10 y11 y12
      unfold relictlaw00_Term.l0
      repeat' first
      | (with_reducible exact ih0 _ _ _ _ _ _)
      | (with_reducible exact ih1 _ _ _ _ _ _ _ _ _ _ _ _ _)
      | (with_reducible exact LeO.refl _)
      | (with_reducible exact LeO.none _)
      | (with_reducible refine LeO.ite ?_ ?_)
      | (with_reducible refine LeO.bind ?_ (fun _ => ?_))
      | exact ih0 _ _ _ _ _ _
      | exact ih1 _ _ _ _ _ _ _ _ _ _ _ _ _
      | exact LeO.none _
      | refine LeO.ite ?_ ?_
      | refine LeO.bind ?_ (fun _ => ?_)
theorem relictlaw00_Term.mono : ∀ a0 a1 a2 a3 a4 a5 k, LeO (relictlaw00_Term.f k a0 a1 a2 a3 a4 a5) (relictlaw00_Term.f (k + 1) a0 a1 a2 a3 a4 a5) := by
  intro a0 a1 a2 a3 a4 a5 k
  obtain ⟨ih0, ih1⟩ := relictlaw00_Term.mono_l k
  exact ih0 a0 a1 a2 a3 a4 a5
def relictlaw00_Term.T1 : Bool × List (List Nat × List Nat) := (true, [([], []), ([0], [0]), ([], []), ([2], [2]), ([3], [3]), ([], []), ([5], [5]), ([], []), ([7], [7]), ([1, 4, 6, 8], [1, 4, 6, 8]), ([], []), ([10, 9, 4, 0, 1, 2, 3, 4, 5, 6, 7, 8, 9, 10], [9, 10])])
def relictlaw00_Term.B1 : List Nat := [0, 1, 0, 4, 12, 0, 32, 0, 128, 511, 0, 2047]
theorem relictlaw00_Term.tab1 : rtab .any (opsOf Try.f39 1) = relictlaw00_Term.T1 := by kernel_rfl
theorem relictlaw00_Term.bits1 : waitsOk relictlaw00_Term.T1.2 relictlaw00_Term.B1 = true := by kernel_rfl
def relictlaw00_Term.T5 : Bool × List (List Nat × List Nat) := (true, [([], []), ([0], [0]), ([], []), ([2], [2]), ([], []), ([3, 4], [3, 4]), ([5], [5]), ([6], [6]), ([7], [7]), ([1, 8, 7], [1, 8]), ([0, 1, 2, 3, 4, 5, 6, 7, 8, 9], []), ([10, 9, 9, 0, 1, 2, 3, 4, 5, 6, 7, 8, 9], [9, 10])])
def relictlaw00_Term.B5 : List Nat := [0, 1, 0, 4, 0, 28, 60, 124, 252, 511, 1023, 2047]
theorem relictlaw00_Term.tab5 : rtab .any (opsOf Try.f39 5) = relictlaw00_Term.T5 := by kernel_rfl
theorem relictlaw00_Term.bits5 : waitsOk relictlaw00_Term.T5.2 relictlaw00_Term.B5 = true := by kernel_rfl
set_option maxHeartbeats 8000000 in
set_option maxRecDepth 100000 in
theorem relictlaw00_Term.calls (k : Nat) : ∀ (a0_0 : Int) (a0_1 : Bool) (A0_2 : Option Addr) (c0_2 : Nat) (l0_2 : List Int) (a0_3 : ByteArray) (a0_4 : Int) (A0_5 : Option Addr) (c0_5 : Nat) (l0_5 : List (S45)) (r1 : Int) (r2 : Bool) (r3 : List Int) (r4 : ByteArray) (r5 : Int) (r6 : List (S45)) (w : World) (hr0_2 : Kd.C (Kd.int .u32) w A0_2 l0_2.length l0_2) (hc0_2 : l0_2.length ≤ c0_2) (hr0_5 : Kd.C k45 w A0_5 l0_5.length l0_5) (hc0_5 : l0_5.length ≤ c0_5) (h : relictlaw00_Term.f k a0_0 a0_1 l0_2 a0_3 a0_4 l0_5 = some (r1, r2, r3, r4, r5, r6)),
    Calls Try.prog 39 #[.agg #[.int .i64 a0_0, .bool a0_1, .slice A0_2 l0_2.length c0_2, .string a0_3, .int .i64 a0_4, .slice A0_5 l0_5.length c0_5]] w fun e w' => ∃ v2_ v5_ : Value, e = .returned (.agg #[.int .i64 r1, .bool r2, v2_, .string r4, .int .i64 r5, v5_]) ∧ Kd.R (Kd.int .u32) 123 w' w.heap.size (fun _ => True) v2_ r3 ∧ Kd.R k45 45 w' w.heap.size (fun k_ => some k_ ≠ (v2_ : Value).ownBlock) v5_ r6 ∧ Below w.heap.size w w' := by
  induction k using Nat.strongRecOn with
  | _ k ih =>
  intro a0_0 a0_1 A0_2 c0_2 l0_2 a0_3 a0_4 A0_5 c0_5 l0_5 r1 r2 r3 r4 r5 r6 w hr0_2 hc0_2 hr0_5 hc0_5 h
  cases k with
  | zero => exact absurd h (by simp [relictlaw00_Term.f])
  | succ k =>
  simp only [relictlaw00_Term.f] at h
  have hu45 := Try.underlying45
  have hu42 := Try.underlying42
  have HR0_2 := Aside0.mk hr0_2
  have HC0_2 := Aside0.mk hc0_2
  clear hr0_2 hc0_2
  have HR0_5 := Aside0.mk hr0_5
  have HC0_5 := Aside0.mk hc0_5
  clear hr0_5 hc0_5
  have HB := Aside0.mk (Below.refl w.heap.size w)
  have H : ((relictlaw00_Num.f a0_1 l0_2).bind fun bt390 => (relictlaw00_Term.l0 k 0 a0_0 a0_1 l0_2 a0_3 a0_4 l0_5 a0_0 bt390.1 bt390.2 a0_3 a0_4 ([] : List (S45)))) = some (r1, r2, r3, r4, r5, r6) := h
  clear h
  replace H := Option.bind_eq_some_iff.mp H
  obtain ⟨⟨t390, t391⟩, A20, H⟩ := H
  replace H : (relictlaw00_Term.l0 k 0 a0_0 a0_1 l0_2 a0_3 a0_4 l0_5 a0_0 t390 t391 a0_3 a0_4 ([] : List (S45))) = some (r1, r2, r3, r4, r5, r6) := H
  have A2 := Aside0.mk A20
  clear A20
  have H' := Aside0.mk H
  clear H
  go_enter Try.func39, Try.ntmps39
  try go_wp2_with (first | ((with_reducible refine gate_dst (N := 1) rfl ?_); refine box_event ?hg (N := 1) ?hd (cs := #[.int .i64 a0_0, .bool a0_1, .slice A0_2 l0_2.length c0_2, .string a0_3, .int .i64 a0_4, .slice A0_5 l0_5.length c0_5]) (t := 45) ?hr ?_; (case hd => rfl); (case hg => rfl); (case hr => first | (go_simp; done) | (go_simp; rfl)); intro gb388 hg w3 hbox hb; have n0_ := Aside0.mk (below_step (by repeat (first | (with_reducible first | exact HB.out | apply below_alloc | apply pw_below_drewN | apply below_drew1) | exact HB.out)) hb); have n1_ := Aside0.mk (hbox); have n2_ := Aside0.mk ((by rw [hg]; exact (below_size (by repeat (first | (with_reducible first | exact HB.out | apply below_alloc | apply pw_below_drewN | apply below_drew1) | exact HB.out))) : w.heap.size ≤ gb388)); have n3_ := Aside0.mk ((by rw [hg]; exact (below_size (by repeat (first | (with_reducible first | exact HB.out | apply below_alloc | apply pw_below_drewN | apply below_drew1) | exact HB.out))) : w.heap.size ≤ gb388)); clear HB; have HB := n0_; have BK388 := n1_; have GW388 := n2_; have GE388 := n3_; clear n0_ n1_ n2_ n3_; clear hb hbox hg) | ((with_reducible refine gate_dst (N := 2) rfl ?_); refine box_event ?hg (N := 2) ?hd (cs := #[.int .i64 0, .bool false, .slice none 0 0, .string (⟨#[]⟩ : ByteArray), .int .i64 0, .slice none 0 0]) (t := 45) ?hr ?_; (case hd => rfl); (case hg => rfl); (case hr => first | (go_simp; done) | (go_simp; rfl)); intro gb389 hg w4 hbox hb; have n0_ := Aside0.mk (blk_below (g := gb388) (o := .cells #[.int .i64 a0_0, .bool a0_1, .slice A0_2 l0_2.length c0_2, .string a0_3, .int .i64 a0_4, .slice A0_5 l0_5.length c0_5] 45 (0, 0)) (by (with_reducible repeat (first | refine blk_drewN ?_ _ | refine blk_drew ?_ | refine blk_alloc ?_ _)); exact BK388.out) hb); have n1_ := Aside0.mk (below_step (by repeat (first | (with_reducible first | exact HB.out | apply below_alloc | apply pw_below_drewN | apply below_drew1 | refine below_set ?_ GE388.out) | exact HB.out)) hb); have n2_ := Aside0.mk (hbox); have n3_ := Aside0.mk ((by rw [hg]; exact (below_size (by repeat (first | (with_reducible first | exact HB.out | apply below_alloc | apply pw_below_drewN | apply below_drew1 | refine below_set ?_ GE388.out) | exact HB.out))) : w.heap.size ≤ gb389)); have n4_ := Aside0.mk ((by rw [hg]; exact (below_size (by repeat (first | (with_reducible first | exact HB.out | apply below_alloc | apply pw_below_drewN | apply below_drew1 | refine below_set ?_ GE388.out) | exact HB.out))) : w.heap.size ≤ gb389)); have n5_ := Aside0.mk ((by rw [hg]; exact Nat.ne_of_lt (blk_lt (g := gb388) (o := .cells #[.int .i64 a0_0, .bool a0_1, .slice A0_2 l0_2.length c0_2, .string a0_3, .int .i64 a0_4, .slice A0_5 l0_5.length c0_5] 45 (0, 0)) (by (with_reducible repeat (first | refine blk_drewN ?_ _ | refine blk_drew ?_ | refine blk_alloc ?_ _)); exact BK388.out)) : gb388 ≠ gb389)); have n6_ := Aside0.mk ((by rw [hg]; exact Nat.ne_of_gt (blk_lt (g := gb388) (o := .cells #[.int .i64 a0_0, .bool a0_1, .slice A0_2 l0_2.length c0_2, .string a0_3, .int .i64 a0_4, .slice A0_5 l0_5.length c0_5] 45 (0, 0)) (by (with_reducible repeat (first | refine blk_drewN ?_ _ | refine blk_drew ?_ | refine blk_alloc ?_ _)); exact BK388.out)) : gb389 ≠ gb388)); clear BK388; clear HB; have BK388 := n0_; have HB := n1_; have BK389 := n2_; have GW389 := n3_; have GE389 := n4_; have NB388_389 := n5_; have NB389_388 := n6_; clear n0_ n1_ n2_ n3_ n4_ n5_ n6_; clear hb hbox hg))
  have n0_ := Aside0.mk (blk_drew BK388.out)
  have n1_ := Aside0.mk (blk_drew BK389.out)
  have n2_ := Aside0.mk (below_drew1 HB.out)
  clear BK388
  clear BK389
  clear HB
  have BK388 := n0_
  have BK389 := n1_
  have HB := n2_
  clear n0_ n1_ n2_
  refine start_ (n := 12) (S := fun w' => w'.cell? ⟨gb388, 0, none⟩ = some (.int .i64 a0_0) ∧ w'.cell? ⟨gb388, 1, none⟩ = some (.bool a0_1) ∧ w'.cell? ⟨gb388, 2, none⟩ = some (.slice A0_2 l0_2.length c0_2) ∧ w'.cell? ⟨gb388, 3, none⟩ = some (.string a0_3) ∧ w'.cell? ⟨gb388, 4, none⟩ = some (.int .i64 a0_4) ∧ w'.cell? ⟨gb388, 5, none⟩ = some (.slice A0_5 l0_5.length c0_5)) (ds := []) #[false, false, false, false, false, false, false, false, false, false, false, false] (by kernel_rfl) rfl rfl ⟨(blk_cell BK388.out 0).trans rfl, (blk_cell BK388.out 1).trans rfl, (blk_cell BK388.out 2).trans rfl, (blk_cell BK388.out 3).trans rfl, (blk_cell BK388.out 4).trans rfl, (blk_cell BK388.out 5).trans rfl⟩ (fun hHeld => ?_); refine with_tabW relictlaw00_Term.tab1 relictlaw00_Term.bits1 (fun HT_ HW_ => ?_)
  generalize w4.drew = w5 at BK388 BK389 HB hHeld ⊢
  refine pure_ (i := 0) (N := some 5) (v := ?_) (a' := ?_) #[true, false, false, false, false, false, false, false, false, false, false, false] rfl rfl (any_of HT_.out (by kernel_rfl)) (fun _ _ _ h => h) (Or.inl ⟨by rfl, ?_⟩) ?_ ?_
  rotate_left
  · intro w'
    go_simp
    with_reducible rfl
  rotate_left
  · simp only [Act.put, List.setIfInBounds_toArray, List.set_cons_zero, List.set_cons_succ, i64_w, i32_w]
    rfl
  refine pure_ (i := 2) (N := some 7) (v := ?_) (a' := ?_) #[true, false, true, false, false, false, false, false, false, false, false, false] rfl rfl (any_of HT_.out (by kernel_rfl)) (fun _ _ _ h => h) (Or.inl ⟨by rfl, ?_⟩) ?_ ?_
  rotate_left
  · intro w'
    go_simp
    with_reducible rfl
  rotate_left
  · simp only [Act.put, List.setIfInBounds_toArray, List.set_cons_zero, List.set_cons_succ, i64_w, i32_w]
    rfl
  refine pure_ (i := 5) (N := some 10) (v := ?_) (a' := ?_) #[true, false, true, false, false, true, false, false, false, false, false, false] rfl rfl (any_of HT_.out (by kernel_rfl)) (fun _ _ _ h => h) (Or.inl ⟨by rfl, ?_⟩) ?_ ?_
  rotate_left
  · intro w'
    go_simp
    with_reducible rfl
  rotate_left
  · simp only [Act.put, List.setIfInBounds_toArray, List.set_cons_zero, List.set_cons_succ, i64_w, i32_w]
    rfl
  refine pure_ (i := 7) (N := some 12) (v := ?_) (a' := ?_) #[true, false, true, false, false, true, false, true, false, false, false, false] rfl rfl (any_of HT_.out (by kernel_rfl)) (fun _ _ _ h => h) (Or.inl ⟨by rfl, ?_⟩) ?_ ?_
  rotate_left
  · intro w'
    go_simp
    with_reducible rfl
  rotate_left
  · simp only [Act.put, List.setIfInBounds_toArray, List.set_cons_zero, List.set_cons_succ, i64_w, i32_w]
    rfl
  refine take_ (i := 1) (N := some 6) (v := ?_) (a' := ?_) #[true, true, true, false, false, true, false, true, false, false, false, false] rfl rfl (take_ofW HT_.out HW_.out (by kernel_rfl)) (fun _ _ _ h => h) (Or.inl ⟨by rfl, ?_⟩) hHeld ?_ ?_
  rotate_left
  · rintro w' ⟨s0, s1, s2, s3, s4, s5⟩
    go_simp
    with_reducible rfl
  rotate_left
  · simp only [Act.put, List.setIfInBounds_toArray, List.set_cons_zero, List.set_cons_succ, i64_w, i32_w]
    rfl
  refine take_ (i := 3) (N := some 8) (v := ?_) (a' := ?_) #[true, true, true, true, false, true, false, true, false, false, false, false] rfl rfl (take_ofW HT_.out HW_.out (by kernel_rfl)) (fun _ _ _ h => h) (Or.inl ⟨by rfl, ?_⟩) hHeld ?_ ?_
  rotate_left
  · rintro w' ⟨s0, s1, s2, s3, s4, s5⟩
    go_simp
    with_reducible rfl
  rotate_left
  · simp only [Act.put, List.setIfInBounds_toArray, List.set_cons_zero, List.set_cons_succ, i64_w, i32_w]
    rfl
  refine take_ (i := 6) (N := some 11) (v := ?_) (a' := ?_) #[true, true, true, true, false, true, true, true, false, false, false, false] rfl rfl (take_ofW HT_.out HW_.out (by kernel_rfl)) (fun _ _ _ h => h) (Or.inl ⟨by rfl, ?_⟩) hHeld ?_ ?_
  rotate_left
  · rintro w' ⟨s0, s1, s2, s3, s4, s5⟩
    go_simp
    with_reducible rfl
  rotate_left
  · simp only [Act.put, List.setIfInBounds_toArray, List.set_cons_zero, List.set_cons_succ, i64_w, i32_w]
    rfl
  refine take_ (i := 8) (N := some 13) (v := ?_) (a' := ?_) #[true, true, true, true, false, true, true, true, true, false, false, false] rfl rfl (take_ofW HT_.out HW_.out (by kernel_rfl)) (fun _ _ _ h => h) (Or.inl ⟨by rfl, ?_⟩) hHeld ?_ ?_
  rotate_left
  · rintro w' ⟨s0, s1, s2, s3, s4, s5⟩
    go_simp
    with_reducible rfl
  rotate_left
  · simp only [Act.put, List.setIfInBounds_toArray, List.set_cons_zero, List.set_cons_succ, i64_w, i32_w]
    rfl
  refine join_ (σ := Value × Nat) 1 #[true, true, true, true, true, true, true, true, true, true, true, false] (fun s_ => [(9, .agg #[.bool t390, s_.1]), (3, .pointer (some ⟨s_.2, 0, none⟩)), (14, .agg #[.int .i64 a0_0, .bool t390, s_.1, .string a0_3, .int .i64 a0_4, .slice none 0 0])]) (fun s_ w' => (w'.cell? ⟨gb388, 0, none⟩ = some (.int .i64 a0_0) ∧ w'.cell? ⟨gb388, 1, none⟩ = some (.bool a0_1) ∧ w'.cell? ⟨gb388, 2, none⟩ = some (.slice A0_2 l0_2.length c0_2) ∧ w'.cell? ⟨gb388, 3, none⟩ = some (.string a0_3) ∧ w'.cell? ⟨gb388, 4, none⟩ = some (.int .i64 a0_4) ∧ w'.cell? ⟨gb388, 5, none⟩ = some (.slice A0_5 l0_5.length c0_5)) ∧ (Kd.R (Kd.int .u32) 123 w' w.heap.size (fun _ => True) s_.1 t391) ∧ (w'.heap[gb388]? = some (.cells #[.int .i64 a0_0, .bool a0_1, .slice A0_2 l0_2.length c0_2, .string a0_3, .int .i64 a0_4, .slice A0_5 l0_5.length c0_5] 45 (0, 0))) ∧ (w'.heap[gb389]? = some (.cells #[.int .i64 0, .bool false, .slice none 0 0, .string (⟨#[]⟩ : ByteArray), .int .i64 0, .slice none 0 0] 45 (0, 0))) ∧ (w'.heap[s_.2]? = some (.cells #[.int .i64 0, .bool false, .slice none 0 0, .string (⟨#[]⟩ : ByteArray), .int .i64 0, .slice none 0 0] 45 (0, 0))) ∧ (w.heap.size ≤ s_.2) ∧ (w.heap.size ≤ s_.2) ∧ (gb388 ≠ s_.2) ∧ (s_.2 ≠ gb388) ∧ (gb389 ≠ s_.2) ∧ (s_.2 ≠ gb389) ∧ (Below w.heap.size w w')) ?_ ?_
  rotate_left
  · intro hCont
    refine two_ (i := 4) (j := 10) (Ni := some 9) (Nj := some 3) #[true, true, true, true, true, true, true, true, true, false, false, false] #[true, true, true, true, false, true, true, true, true, false, true, false] rfl rfl rfl rfl (two_of HT_.out (by kernel_rfl)) (by decide) (by decide) (fun K hK => ?_) (fun K hK => ?_)
    · skip
      refine goes_ Try.func95 (by kernel_rfl) rfl #[.agg #[.bool a0_1, .slice A0_2 l0_2.length c0_2]] (by rfl) rfl rfl (by (try simp only [List.map_toArray, List.map_cons, List.map_nil]); first | done | rfl | (simp only [List.length_drop, List.length_take]; rfl)) ?_
      with_reducible refine (relictlaw00_Num.calls a0_1 _ _ l0_2 t390 t391 _ ?side1 ?side2 A2.out).mono ?_
      (case side1 => repeat (first | exact (Kd.C_below HR0_2.out HB.out) | (with_reducible refine Kd.C_alloc ?_ _) | (with_reducible refine Kd.C_drewN ?_ _) | (with_reducible refine Kd.C_drew ?_)))
      (case side2 => exact HC0_2.out)
      rintro e w6 ⟨v392, rfl, ho0, hb⟩
      refine ⟨_, rfl, ?_⟩
      have n0_ := Aside0.mk (Kd.R_lower ho0 (below_size (by repeat (first | (with_reducible first | exact HB.out | apply below_alloc | apply pw_below_drewN | apply below_drew1 | refine below_set ?_ GE388.out | refine below_set ?_ GE389.out) | exact HB.out))))
      have n1_ := Aside0.mk (blk_below (g := gb388) (o := .cells #[.int .i64 a0_0, .bool a0_1, .slice A0_2 l0_2.length c0_2, .string a0_3, .int .i64 a0_4, .slice A0_5 l0_5.length c0_5] 45 (0, 0)) (by (with_reducible repeat (first | refine blk_drewN ?_ _ | refine blk_drew ?_ | refine blk_alloc ?_ _)); exact BK388.out) hb)
      have n2_ := Aside0.mk (blk_below (g := gb389) (o := .cells #[.int .i64 0, .bool false, .slice none 0 0, .string (⟨#[]⟩ : ByteArray), .int .i64 0, .slice none 0 0] 45 (0, 0)) (by (with_reducible repeat (first | refine blk_drewN ?_ _ | refine blk_drew ?_ | refine blk_alloc ?_ _)); exact BK389.out) hb)
      have n3_ := Aside0.mk (below_step (by repeat (first | (with_reducible first | exact HB.out | apply below_alloc | apply pw_below_drewN | apply below_drew1 | refine below_set ?_ GE388.out | refine below_set ?_ GE389.out) | exact HB.out)) hb)
      clear BK388
      clear BK389
      clear HB
      have HO393 := n0_
      have BK388 := n1_
      have BK389 := n2_
      have HB := n3_
      clear n0_ n1_ n2_ n3_
      (try clear hb)
      (try clear hb2)
      (try clear hk)
      (try clear hi)
      (try clear ho0)
      obtain ⟨Ao7, co7, eo7⟩ := Kd.R_slice HO393.out
      (first | subst eo7 | (injection eo7 with f1_ f2_ f3_; have f4_ := f1_.symm; have f5_ := f3_.symm; clear f1_ f2_ f3_; subst f4_; subst f5_))
      refine hK.out _ _ ⟨(blk_cell BK388.out 0).trans rfl, (blk_cell BK388.out 1).trans rfl, (blk_cell BK388.out 2).trans rfl, (blk_cell BK388.out 3).trans rfl, (blk_cell BK388.out 4).trans rfl, (blk_cell BK388.out 5).trans rfl⟩ (fun hHeld => ?_)
      clear hK K
      refine norm_ (a' := ?_) ?_ ?_
      rotate_left
      · show Act.put _ (some 9) _ = _
        simp only [Act.put, List.setIfInBounds_toArray, List.set_cons_zero, List.set_cons_succ, i64_w, i32_w]
        rfl
      refine pure_ (i := 9) (N := some 14) (v := ?_) (a' := ?_) #[true, true, true, true, true, true, true, true, true, true, false, false] rfl rfl (any_of HT_.out (by kernel_rfl)) (fun _ _ _ h => h) (Or.inl ⟨by rfl, ?_⟩) ?_ ?_
      rotate_left
      · intro w'
        go_simp
        with_reducible rfl
      rotate_left
      · simp only [Act.put, List.setIfInBounds_toArray, List.set_cons_zero, List.set_cons_succ, i64_w, i32_w]
        rfl
      refine one_ (i := 10) (N := some 3) #[true, true, true, true, true, true, true, true, true, true, true, false] rfl rfl (one_of HT_.out (by kernel_rfl)) (by decide) (fun K hK => ?_)
      refine box_step ?hg (N := 3) ?hd (cs := #[.int .i64 0, .bool false, .slice none 0 0, .string (⟨#[]⟩ : ByteArray), .int .i64 0, .slice none 0 0]) (t := 45) ?hr ?_; (case hd => rfl); (case hg => rfl); (case hr => first | (go_simp; done) | (go_simp; rfl))
      intro gb394 hg w8 hbox hb
      have n0_ := Aside0.mk (Kd.R_below (by (with_reducible repeat (first | apply Kd.R_alloc | apply Kd.R_drewN | apply Kd.R_drew)); exact HO393.out) hb)
      have n1_ := Aside0.mk (blk_below (g := gb388) (o := .cells #[.int .i64 a0_0, .bool a0_1, .slice A0_2 l0_2.length c0_2, .string a0_3, .int .i64 a0_4, .slice A0_5 l0_5.length c0_5] 45 (0, 0)) (by (with_reducible repeat (first | refine blk_drewN ?_ _ | refine blk_drew ?_ | refine blk_alloc ?_ _)); exact BK388.out) hb)
      have n2_ := Aside0.mk (blk_below (g := gb389) (o := .cells #[.int .i64 0, .bool false, .slice none 0 0, .string (⟨#[]⟩ : ByteArray), .int .i64 0, .slice none 0 0] 45 (0, 0)) (by (with_reducible repeat (first | refine blk_drewN ?_ _ | refine blk_drew ?_ | refine blk_alloc ?_ _)); exact BK389.out) hb)
      have n3_ := Aside0.mk (below_step (by repeat (first | (with_reducible first | exact HB.out | apply below_alloc | apply pw_below_drewN | apply below_drew1 | refine below_set ?_ GE388.out | refine below_set ?_ GE389.out) | exact HB.out)) hb)
      have n4_ := Aside0.mk (hbox)
      have n5_ := Aside0.mk ((by rw [hg]; exact (below_size (by repeat (first | (with_reducible first | exact HB.out | apply below_alloc | apply pw_below_drewN | apply below_drew1 | refine below_set ?_ GE388.out | refine below_set ?_ GE389.out) | exact HB.out))) : w.heap.size ≤ gb394))
      have n6_ := Aside0.mk ((by rw [hg]; exact (below_size (by repeat (first | (with_reducible first | exact HB.out | apply below_alloc | apply pw_below_drewN | apply below_drew1 | refine below_set ?_ GE388.out | refine below_set ?_ GE389.out) | exact HB.out))) : w.heap.size ≤ gb394))
      have n7_ := Aside0.mk ((by rw [hg]; exact Nat.ne_of_lt (blk_lt (g := gb388) (o := .cells #[.int .i64 a0_0, .bool a0_1, .slice A0_2 l0_2.length c0_2, .string a0_3, .int .i64 a0_4, .slice A0_5 l0_5.length c0_5] 45 (0, 0)) (by (with_reducible repeat (first | refine blk_drewN ?_ _ | refine blk_drew ?_ | refine blk_alloc ?_ _)); exact BK388.out)) : gb388 ≠ gb394))
      have n8_ := Aside0.mk ((by rw [hg]; exact Nat.ne_of_gt (blk_lt (g := gb388) (o := .cells #[.int .i64 a0_0, .bool a0_1, .slice A0_2 l0_2.length c0_2, .string a0_3, .int .i64 a0_4, .slice A0_5 l0_5.length c0_5] 45 (0, 0)) (by (with_reducible repeat (first | refine blk_drewN ?_ _ | refine blk_drew ?_ | refine blk_alloc ?_ _)); exact BK388.out)) : gb394 ≠ gb388))
      have n9_ := Aside0.mk ((by rw [hg]; exact Nat.ne_of_lt (blk_lt (g := gb389) (o := .cells #[.int .i64 0, .bool false, .slice none 0 0, .string (⟨#[]⟩ : ByteArray), .int .i64 0, .slice none 0 0] 45 (0, 0)) (by (with_reducible repeat (first | refine blk_drewN ?_ _ | refine blk_drew ?_ | refine blk_alloc ?_ _)); exact BK389.out)) : gb389 ≠ gb394))
      have n10_ := Aside0.mk ((by rw [hg]; exact Nat.ne_of_gt (blk_lt (g := gb389) (o := .cells #[.int .i64 0, .bool false, .slice none 0 0, .string (⟨#[]⟩ : ByteArray), .int .i64 0, .slice none 0 0] 45 (0, 0)) (by (with_reducible repeat (first | refine blk_drewN ?_ _ | refine blk_drew ?_ | refine blk_alloc ?_ _)); exact BK389.out)) : gb394 ≠ gb389))
      clear HO393
      clear BK388
      clear BK389
      clear HB
      have HO393 := n0_
      have BK388 := n1_
      have BK389 := n2_
      have HB := n3_
      have BK394 := n4_
      have GW394 := n5_
      have GE394 := n6_
      have NB388_394 := n7_
      have NB394_388 := n8_
      have NB389_394 := n9_
      have NB394_389 := n10_
      clear n0_ n1_ n2_ n3_ n4_ n5_ n6_ n7_ n8_ n9_ n10_
      clear hb hbox hg
      refine hK.out _ _ ⟨(blk_cell BK388.out 0).trans rfl, (blk_cell BK388.out 1).trans rfl, (blk_cell BK388.out 2).trans rfl, (blk_cell BK388.out 3).trans rfl, (blk_cell BK388.out 4).trans rfl, (blk_cell BK388.out 5).trans rfl⟩ (fun hHeld => ?_)
      clear hK K
      refine norm_ (a' := ?_) ?_ ?_
      rotate_left
      · show Act.put _ (some 3) _ = _
        simp only [Act.put, List.setIfInBounds_toArray, List.set_cons_zero, List.set_cons_succ, i64_w, i32_w]
        rfl
      exact norm_ (by simp only [putAll, Act.put, List.setIfInBounds_toArray, List.set_cons_zero, List.set_cons_succ]) (hCont (.slice Ao7 t391.length co7, gb394) _ ⟨hHeld, (by (with_reducible repeat (first | apply Kd.R_alloc | apply Kd.R_drewN | apply Kd.R_drew)); exact HO393.out), (by (with_reducible repeat (first | refine blk_drewN ?_ _ | refine blk_drew ?_ | refine blk_alloc ?_ _)); exact BK388.out), (by (with_reducible repeat (first | refine blk_drewN ?_ _ | refine blk_drew ?_ | refine blk_alloc ?_ _)); exact BK389.out), (by (with_reducible repeat (first | refine blk_drewN ?_ _ | refine blk_drew ?_ | refine blk_alloc ?_ _)); exact BK394.out), GW394.out, GE394.out, NB388_394.out, NB394_388.out, NB389_394.out, NB394_389.out, (by repeat (first | (with_reducible first | exact HB.out | apply below_alloc | apply pw_below_drewN | apply below_drew1 | refine below_set ?_ GE388.out | refine below_set ?_ GE389.out | refine below_set ?_ GE394.out) | exact HB.out))⟩)
    · skip
      refine box_step ?hg (N := 3) ?hd (cs := #[.int .i64 0, .bool false, .slice none 0 0, .string (⟨#[]⟩ : ByteArray), .int .i64 0, .slice none 0 0]) (t := 45) ?hr ?_; (case hd => rfl); (case hg => rfl); (case hr => first | (go_simp; done) | (go_simp; rfl))
      intro gb394 hg w6 hbox hb
      have n0_ := Aside0.mk (blk_below (g := gb388) (o := .cells #[.int .i64 a0_0, .bool a0_1, .slice A0_2 l0_2.length c0_2, .string a0_3, .int .i64 a0_4, .slice A0_5 l0_5.length c0_5] 45 (0, 0)) (by (with_reducible repeat (first | refine blk_drewN ?_ _ | refine blk_drew ?_ | refine blk_alloc ?_ _)); exact BK388.out) hb)
      have n1_ := Aside0.mk (blk_below (g := gb389) (o := .cells #[.int .i64 0, .bool false, .slice none 0 0, .string (⟨#[]⟩ : ByteArray), .int .i64 0, .slice none 0 0] 45 (0, 0)) (by (with_reducible repeat (first | refine blk_drewN ?_ _ | refine blk_drew ?_ | refine blk_alloc ?_ _)); exact BK389.out) hb)
      have n2_ := Aside0.mk (below_step (by repeat (first | (with_reducible first | exact HB.out | apply below_alloc | apply pw_below_drewN | apply below_drew1 | refine below_set ?_ GE388.out | refine below_set ?_ GE389.out) | exact HB.out)) hb)
      have n3_ := Aside0.mk (hbox)
      have n4_ := Aside0.mk ((by rw [hg]; exact (below_size (by repeat (first | (with_reducible first | exact HB.out | apply below_alloc | apply pw_below_drewN | apply below_drew1 | refine below_set ?_ GE388.out | refine below_set ?_ GE389.out) | exact HB.out))) : w.heap.size ≤ gb394))
      have n5_ := Aside0.mk ((by rw [hg]; exact (below_size (by repeat (first | (with_reducible first | exact HB.out | apply below_alloc | apply pw_below_drewN | apply below_drew1 | refine below_set ?_ GE388.out | refine below_set ?_ GE389.out) | exact HB.out))) : w.heap.size ≤ gb394))
      have n6_ := Aside0.mk ((by rw [hg]; exact Nat.ne_of_lt (blk_lt (g := gb388) (o := .cells #[.int .i64 a0_0, .bool a0_1, .slice A0_2 l0_2.length c0_2, .string a0_3, .int .i64 a0_4, .slice A0_5 l0_5.length c0_5] 45 (0, 0)) (by (with_reducible repeat (first | refine blk_drewN ?_ _ | refine blk_drew ?_ | refine blk_alloc ?_ _)); exact BK388.out)) : gb388 ≠ gb394))
      have n7_ := Aside0.mk ((by rw [hg]; exact Nat.ne_of_gt (blk_lt (g := gb388) (o := .cells #[.int .i64 a0_0, .bool a0_1, .slice A0_2 l0_2.length c0_2, .string a0_3, .int .i64 a0_4, .slice A0_5 l0_5.length c0_5] 45 (0, 0)) (by (with_reducible repeat (first | refine blk_drewN ?_ _ | refine blk_drew ?_ | refine blk_alloc ?_ _)); exact BK388.out)) : gb394 ≠ gb388))
      have n8_ := Aside0.mk ((by rw [hg]; exact Nat.ne_of_lt (blk_lt (g := gb389) (o := .cells #[.int .i64 0, .bool false, .slice none 0 0, .string (⟨#[]⟩ : ByteArray), .int .i64 0, .slice none 0 0] 45 (0, 0)) (by (with_reducible repeat (first | refine blk_drewN ?_ _ | refine blk_drew ?_ | refine blk_alloc ?_ _)); exact BK389.out)) : gb389 ≠ gb394))
      have n9_ := Aside0.mk ((by rw [hg]; exact Nat.ne_of_gt (blk_lt (g := gb389) (o := .cells #[.int .i64 0, .bool false, .slice none 0 0, .string (⟨#[]⟩ : ByteArray), .int .i64 0, .slice none 0 0] 45 (0, 0)) (by (with_reducible repeat (first | refine blk_drewN ?_ _ | refine blk_drew ?_ | refine blk_alloc ?_ _)); exact BK389.out)) : gb394 ≠ gb389))
      clear BK388
      clear BK389
      clear HB
      have BK388 := n0_
      have BK389 := n1_
      have HB := n2_
      have BK394 := n3_
      have GW394 := n4_
      have GE394 := n5_
      have NB388_394 := n6_
      have NB394_388 := n7_
      have NB389_394 := n8_
      have NB394_389 := n9_
      clear n0_ n1_ n2_ n3_ n4_ n5_ n6_ n7_ n8_ n9_
      clear hb hbox hg
      refine hK.out _ _ ⟨(blk_cell BK388.out 0).trans rfl, (blk_cell BK388.out 1).trans rfl, (blk_cell BK388.out 2).trans rfl, (blk_cell BK388.out 3).trans rfl, (blk_cell BK388.out 4).trans rfl, (blk_cell BK388.out 5).trans rfl⟩ (fun hHeld => ?_)
      clear hK K
      refine norm_ (a' := ?_) ?_ ?_
      rotate_left
      · show Act.put _ (some 3) _ = _
        simp only [Act.put, List.setIfInBounds_toArray, List.set_cons_zero, List.set_cons_succ, i64_w, i32_w]
        rfl
      refine one_ (i := 4) (N := some 9) #[true, true, true, true, true, true, true, true, true, false, true, false] rfl rfl (one_of HT_.out (by kernel_rfl)) (by decide) (fun K hK => ?_)
      refine goes_ Try.func95 (by kernel_rfl) rfl #[.agg #[.bool a0_1, .slice A0_2 l0_2.length c0_2]] (by rfl) rfl rfl (by (try simp only [List.map_toArray, List.map_cons, List.map_nil]); first | done | rfl | (simp only [List.length_drop, List.length_take]; rfl)) ?_
      with_reducible refine (relictlaw00_Num.calls a0_1 _ _ l0_2 t390 t391 _ ?side1 ?side2 A2.out).mono ?_
      (case side1 => repeat (first | exact (Kd.C_below HR0_2.out HB.out) | (with_reducible refine Kd.C_alloc ?_ _) | (with_reducible refine Kd.C_drewN ?_ _) | (with_reducible refine Kd.C_drew ?_)))
      (case side2 => exact HC0_2.out)
      rintro e w7 ⟨v392, rfl, ho0, hb⟩
      refine ⟨_, rfl, ?_⟩
      have n0_ := Aside0.mk (Kd.R_lower ho0 (below_size (by repeat (first | (with_reducible first | exact HB.out | apply below_alloc | apply pw_below_drewN | apply below_drew1 | refine below_set ?_ GE388.out | refine below_set ?_ GE389.out | refine below_set ?_ GE394.out) | exact HB.out))))
      have n1_ := Aside0.mk (blk_below (g := gb388) (o := .cells #[.int .i64 a0_0, .bool a0_1, .slice A0_2 l0_2.length c0_2, .string a0_3, .int .i64 a0_4, .slice A0_5 l0_5.length c0_5] 45 (0, 0)) (by (with_reducible repeat (first | refine blk_drewN ?_ _ | refine blk_drew ?_ | refine blk_alloc ?_ _)); exact BK388.out) hb)
      have n2_ := Aside0.mk (blk_below (g := gb389) (o := .cells #[.int .i64 0, .bool false, .slice none 0 0, .string (⟨#[]⟩ : ByteArray), .int .i64 0, .slice none 0 0] 45 (0, 0)) (by (with_reducible repeat (first | refine blk_drewN ?_ _ | refine blk_drew ?_ | refine blk_alloc ?_ _)); exact BK389.out) hb)
      have n3_ := Aside0.mk (blk_below (g := gb394) (o := .cells #[.int .i64 0, .bool false, .slice none 0 0, .string (⟨#[]⟩ : ByteArray), .int .i64 0, .slice none 0 0] 45 (0, 0)) (by (with_reducible repeat (first | refine blk_drewN ?_ _ | refine blk_drew ?_ | refine blk_alloc ?_ _)); exact BK394.out) hb)
      have n4_ := Aside0.mk (below_step (by repeat (first | (with_reducible first | exact HB.out | apply below_alloc | apply pw_below_drewN | apply below_drew1 | refine below_set ?_ GE388.out | refine below_set ?_ GE389.out | refine below_set ?_ GE394.out) | exact HB.out)) hb)
      clear BK388
      clear BK389
      clear BK394
      clear HB
      have HO393 := n0_
      have BK388 := n1_
      have BK389 := n2_
      have BK394 := n3_
      have HB := n4_
      clear n0_ n1_ n2_ n3_ n4_
      (try clear hb)
      (try clear hb2)
      (try clear hk)
      (try clear hi)
      (try clear ho0)
      obtain ⟨Ao8, co8, eo8⟩ := Kd.R_slice HO393.out
      (first | subst eo8 | (injection eo8 with f1_ f2_ f3_; have f4_ := f1_.symm; have f5_ := f3_.symm; clear f1_ f2_ f3_; subst f4_; subst f5_))
      refine hK.out _ _ ⟨(blk_cell BK388.out 0).trans rfl, (blk_cell BK388.out 1).trans rfl, (blk_cell BK388.out 2).trans rfl, (blk_cell BK388.out 3).trans rfl, (blk_cell BK388.out 4).trans rfl, (blk_cell BK388.out 5).trans rfl⟩ (fun hHeld => ?_)
      clear hK K
      refine norm_ (a' := ?_) ?_ ?_
      rotate_left
      · show Act.put _ (some 9) _ = _
        simp only [Act.put, List.setIfInBounds_toArray, List.set_cons_zero, List.set_cons_succ, i64_w, i32_w]
        rfl
      refine pure_ (i := 9) (N := some 14) (v := ?_) (a' := ?_) #[true, true, true, true, true, true, true, true, true, true, true, false] rfl rfl (any_of HT_.out (by kernel_rfl)) (fun _ _ _ h => h) (Or.inl ⟨by rfl, ?_⟩) ?_ ?_
      rotate_left
      · intro w'
        go_simp
        with_reducible rfl
      rotate_left
      · simp only [Act.put, List.setIfInBounds_toArray, List.set_cons_zero, List.set_cons_succ, i64_w, i32_w]
        rfl
      exact norm_ (by simp only [putAll, Act.put, List.setIfInBounds_toArray, List.set_cons_zero, List.set_cons_succ]) (hCont (.slice Ao8 t391.length co8, gb394) _ ⟨hHeld, (by (with_reducible repeat (first | apply Kd.R_alloc | apply Kd.R_drewN | apply Kd.R_drew)); exact HO393.out), (by (with_reducible repeat (first | refine blk_drewN ?_ _ | refine blk_drew ?_ | refine blk_alloc ?_ _)); exact BK388.out), (by (with_reducible repeat (first | refine blk_drewN ?_ _ | refine blk_drew ?_ | refine blk_alloc ?_ _)); exact BK389.out), (by (with_reducible repeat (first | refine blk_drewN ?_ _ | refine blk_drew ?_ | refine blk_alloc ?_ _)); exact BK394.out), GW394.out, GE394.out, NB388_394.out, NB394_388.out, NB389_394.out, NB394_389.out, (by repeat (first | (with_reducible first | exact HB.out | apply below_alloc | apply pw_below_drewN | apply below_drew1 | refine below_set ?_ GE388.out | refine below_set ?_ GE389.out | refine below_set ?_ GE394.out) | exact HB.out))⟩)
  rintro ⟨v392, gb394⟩ w9 ⟨hS_, h0_, h1_, h2_, h3_, h4_, h5_, h6_, h7_, h8_, h9_, h10_⟩
  have n0_ : Aside0 (Kd.R (Kd.int .u32) 123 w9 w.heap.size (fun _ => True) v392 t391) := ⟨h0_⟩
  have n1_ : Aside0 (w9.heap[gb388]? = some (.cells #[.int .i64 a0_0, .bool a0_1, .slice A0_2 l0_2.length c0_2, .string a0_3, .int .i64 a0_4, .slice A0_5 l0_5.length c0_5] 45 (0, 0))) := ⟨h1_⟩
  have n2_ : Aside0 (w9.heap[gb389]? = some (.cells #[.int .i64 0, .bool false, .slice none 0 0, .string (⟨#[]⟩ : ByteArray), .int .i64 0, .slice none 0 0] 45 (0, 0))) := ⟨h2_⟩
  have n3_ : Aside0 (w9.heap[gb394]? = some (.cells #[.int .i64 0, .bool false, .slice none 0 0, .string (⟨#[]⟩ : ByteArray), .int .i64 0, .slice none 0 0] 45 (0, 0))) := ⟨h3_⟩
  have n4_ : Aside0 (w.heap.size ≤ gb394) := ⟨h4_⟩
  have n5_ : Aside0 (w.heap.size ≤ gb394) := ⟨h5_⟩
  have n6_ : Aside0 (gb388 ≠ gb394) := ⟨h6_⟩
  have n7_ : Aside0 (gb394 ≠ gb388) := ⟨h7_⟩
  have n8_ : Aside0 (gb389 ≠ gb394) := ⟨h8_⟩
  have n9_ : Aside0 (gb394 ≠ gb389) := ⟨h9_⟩
  have n10_ : Aside0 (Below w.heap.size w w9) := ⟨h10_⟩
  clear BK388
  clear BK389
  clear HB
  clear h0_ h1_ h2_ h3_ h4_ h5_ h6_ h7_ h8_ h9_ h10_
  have HO393 := n0_
  have BK388 := n1_
  have BK389 := n2_
  have BK394 := n3_
  have GW394 := n4_
  have GE394 := n5_
  have NB388_394 := n6_
  have NB394_388 := n7_
  have NB389_394 := n8_
  have NB394_389 := n9_
  have HB := n10_
  clear n0_ n1_ n2_ n3_ n4_ n5_ n6_ n7_ n8_ n9_ n10_
  have hHeld : w9.cell? ⟨gb388, 0, none⟩ = some (.int .i64 a0_0) ∧ w9.cell? ⟨gb388, 1, none⟩ = some (.bool a0_1) ∧ w9.cell? ⟨gb388, 2, none⟩ = some (.slice A0_2 l0_2.length c0_2) ∧ w9.cell? ⟨gb388, 3, none⟩ = some (.string a0_3) ∧ w9.cell? ⟨gb388, 4, none⟩ = some (.int .i64 a0_4) ∧ w9.cell? ⟨gb388, 5, none⟩ = some (.slice A0_5 l0_5.length c0_5) := hS_
  obtain ⟨Ao10, co10, eo10⟩ := Kd.R_slice HO393.out
  (first | subst eo10 | (injection eo10 with f1_ f2_ f3_; have f4_ := f1_.symm; have f5_ := f3_.symm; clear f1_ f2_ f3_; subst f4_; subst f5_))
  refine norm_ (a' := ?_) ?_ ?_
  rotate_left
  · simp only [putAll, Act.put, List.setIfInBounds_toArray, List.set_cons_zero, List.set_cons_succ]
    rfl
  refine one_ (i := 11) (N := none) #[true, true, true, true, true, true, true, true, true, true, true, true] rfl rfl (one_of HT_.out (by kernel_rfl)) (by decide) (fun K hK => ?_)
  have hs11 : w9.cell? ⟨gb394, 0, none⟩ = some (.int .i64 0) := (blk_cell BK394.out 0).trans rfl
  have hfs11 := blk_frozen BK394.out 0
  have hns11_0 := NB388_394.out
  have hns11_1 := NB389_394.out
  have hms11_0 := NB394_388.out
  have hms11_1 := NB394_389.out
  have hs12 : w9.cell? ⟨gb394, 1, none⟩ = some (.bool false) := (blk_cell BK394.out 1).trans rfl
  have hfs12 := blk_frozen BK394.out 1
  have hns12_0 := NB388_394.out
  have hns12_1 := NB389_394.out
  have hms12_0 := NB394_388.out
  have hms12_1 := NB394_389.out
  have hs13 : w9.cell? ⟨gb394, 2, none⟩ = some (.slice none 0 0) := (blk_cell BK394.out 2).trans rfl
  have hfs13 := blk_frozen BK394.out 2
  have hns13_0 := NB388_394.out
  have hns13_1 := NB389_394.out
  have hms13_0 := NB394_388.out
  have hms13_1 := NB394_389.out
  have hs14 : w9.cell? ⟨gb394, 3, none⟩ = some (.string (⟨#[]⟩ : ByteArray)) := (blk_cell BK394.out 3).trans rfl
  have hfs14 := blk_frozen BK394.out 3
  have hns14_0 := NB388_394.out
  have hns14_1 := NB389_394.out
  have hms14_0 := NB394_388.out
  have hms14_1 := NB394_389.out
  have hs15 : w9.cell? ⟨gb394, 4, none⟩ = some (.int .i64 0) := (blk_cell BK394.out 4).trans rfl
  have hfs15 := blk_frozen BK394.out 4
  have hns15_0 := NB388_394.out
  have hns15_1 := NB389_394.out
  have hms15_0 := NB394_388.out
  have hms15_1 := NB394_389.out
  have hs16 : w9.cell? ⟨gb394, 5, none⟩ = some (.slice none 0 0) := (blk_cell BK394.out 5).trans rfl
  have hfs16 := blk_frozen BK394.out 5
  have hns16_0 := NB388_394.out
  have hns16_1 := NB389_394.out
  have hms16_0 := NB394_388.out
  have hms16_1 := NB394_389.out
  refine skip_ (w1 := ?_) (by rfl) rfl ?_ ?_
  rotate_left
  · go_simp
    rfl
  refine hK.out _ _ ⟨((cell_far (p := ⟨gb394, _, none⟩) NB388_394.out _).trans (((cell_far (p := ⟨gb394, _, none⟩) NB388_394.out _).trans (((cell_far (p := ⟨gb394, _, none⟩) NB388_394.out _).trans (((cell_far (p := ⟨gb394, _, none⟩) NB388_394.out _).trans (((cell_far (p := ⟨gb394, _, none⟩) NB388_394.out _).trans (((cell_far (p := ⟨gb394, _, none⟩) NB388_394.out _).trans (hHeld.1)))))))))))), ((cell_far (p := ⟨gb394, _, none⟩) NB388_394.out _).trans (((cell_far (p := ⟨gb394, _, none⟩) NB388_394.out _).trans (((cell_far (p := ⟨gb394, _, none⟩) NB388_394.out _).trans (((cell_far (p := ⟨gb394, _, none⟩) NB388_394.out _).trans (((cell_far (p := ⟨gb394, _, none⟩) NB388_394.out _).trans (((cell_far (p := ⟨gb394, _, none⟩) NB388_394.out _).trans (hHeld.2.1)))))))))))), ((cell_far (p := ⟨gb394, _, none⟩) NB388_394.out _).trans (((cell_far (p := ⟨gb394, _, none⟩) NB388_394.out _).trans (((cell_far (p := ⟨gb394, _, none⟩) NB388_394.out _).trans (((cell_far (p := ⟨gb394, _, none⟩) NB388_394.out _).trans (((cell_far (p := ⟨gb394, _, none⟩) NB388_394.out _).trans (((cell_far (p := ⟨gb394, _, none⟩) NB388_394.out _).trans (hHeld.2.2.1)))))))))))), ((cell_far (p := ⟨gb394, _, none⟩) NB388_394.out _).trans (((cell_far (p := ⟨gb394, _, none⟩) NB388_394.out _).trans (((cell_far (p := ⟨gb394, _, none⟩) NB388_394.out _).trans (((cell_far (p := ⟨gb394, _, none⟩) NB388_394.out _).trans (((cell_far (p := ⟨gb394, _, none⟩) NB388_394.out _).trans (((cell_far (p := ⟨gb394, _, none⟩) NB388_394.out _).trans (hHeld.2.2.2.1)))))))))))), ((cell_far (p := ⟨gb394, _, none⟩) NB388_394.out _).trans (((cell_far (p := ⟨gb394, _, none⟩) NB388_394.out _).trans (((cell_far (p := ⟨gb394, _, none⟩) NB388_394.out _).trans (((cell_far (p := ⟨gb394, _, none⟩) NB388_394.out _).trans (((cell_far (p := ⟨gb394, _, none⟩) NB388_394.out _).trans (((cell_far (p := ⟨gb394, _, none⟩) NB388_394.out _).trans (hHeld.2.2.2.2.1)))))))))))), ((cell_far (p := ⟨gb394, _, none⟩) NB388_394.out _).trans (((cell_far (p := ⟨gb394, _, none⟩) NB388_394.out _).trans (((cell_far (p := ⟨gb394, _, none⟩) NB388_394.out _).trans (((cell_far (p := ⟨gb394, _, none⟩) NB388_394.out _).trans (((cell_far (p := ⟨gb394, _, none⟩) NB388_394.out _).trans (((cell_far (p := ⟨gb394, _, none⟩) NB388_394.out _).trans (hHeld.2.2.2.2.2))))))))))))⟩ (fun hHeld => ?_)
  clear hK K
  refine done_ (done_of HT_.out (by kernel_rfl)) ?_
  try go_wp2
  go_loopg [4] k (fun kq v4 w' => ∃ (x4_1 : Int) (x395005_1 : List (S45)) (u395005 : Value), v4 = .int .i64 x4_1 ∧ Aside0 (relictlaw00_Term.l0 kq x4_1 a0_0 a0_1 l0_2 a0_3 a0_4 l0_5 a0_0 t390 t391 a0_3 a0_4 x395005_1 = some (r1, r2, r3, r4, r5, r6)) ∧ Aside0 (kq ≤ k) ∧ Aside0 (Kd.R (Kd.int .u32) 123 w' w.heap.size (fun _ => True) (.slice Ao10 t391.length co10) t391) ∧ Aside0 (Kd.R k45 45 w' w.heap.size (fun k_ => some k_ ≠ ((.slice Ao10 t391.length co10) : Value).ownBlock ∧ k_ ≠ gb388 ∧ k_ ≠ gb389 ∧ k_ ≠ gb394) u395005 x395005_1) ∧ Aside0 (w'.heap[gb388]? = some (.cells #[.int .i64 a0_0, .bool a0_1, (.slice A0_2 l0_2.length c0_2), .string a0_3, .int .i64 a0_4, (.slice A0_5 l0_5.length c0_5)] 45 (0, 0))) ∧ Aside0 (w'.heap[gb389]? = some (.cells #[.int .i64 0, .bool false, (.slice none 0 0), .string (⟨#[]⟩ : ByteArray), .int .i64 0, (.slice none 0 0)] 45 (0, 0))) ∧ Aside0 (w'.heap[gb394]? = some (.cells #[.int .i64 a0_0, .bool t390, (.slice Ao10 t391.length co10), .string a0_3, .int .i64 a0_4, u395005] 45 (0, 0))) ∧ Aside0 (Below w.heap.size w w'))
  case atStart => exact ⟨(0), (([] : List (S45))), (.slice none 0 0), (by first | rfl | (simp; done) | (simp [*]; done)), H', ⟨Nat.le_refl _⟩, ⟨by (with_reducible repeat (first | apply Kd.R_alloc | apply Kd.R_drewN | apply Kd.R_drew)); exact Kd.R_mono (Kd.R_far (p := ⟨gb394, 5, none⟩) (Kd.R_far (p := ⟨gb394, 4, none⟩) (Kd.R_far (p := ⟨gb394, 3, none⟩) (Kd.R_far (p := ⟨gb394, 2, none⟩) (Kd.R_far (p := ⟨gb394, 1, none⟩) (Kd.R_far (p := ⟨gb394, 0, none⟩) (Kd.R_types HO393.out BK394.out (by decide)) (fun _ hk => hk.2) (.int .i64 a0_0)) (fun _ hk => hk.2) (.bool t390)) (fun _ hk => hk.2) (.slice Ao10 t391.length co10)) (fun _ hk => hk.2) (.string a0_3)) (fun _ hk => hk.2) (.int .i64 a0_4)) (fun _ hk => hk.2) (.slice none 0 0)) (fun _ hk => trivial)⟩, ⟨by first | exact Kd.R_nil _ _ _ _ _ | exact Kd.N_nil _ _ _ _ _ | exact Kd.V_nil _ _ _ _ _ | exact Kd.Q_nil _ _ _ _ _ | exact Kd.S_nil _ _ _ _ _⟩, ⟨by (with_reducible repeat (first | refine blk_drewN ?_ _ | refine blk_drew ?_ | refine blk_alloc ?_ _)); refine blk_far ?_ NB388_394.out _; (with_reducible repeat (first | refine blk_drewN ?_ _ | refine blk_drew ?_ | refine blk_alloc ?_ _)); refine blk_far ?_ NB388_394.out _; (with_reducible repeat (first | refine blk_drewN ?_ _ | refine blk_drew ?_ | refine blk_alloc ?_ _)); refine blk_far ?_ NB388_394.out _; (with_reducible repeat (first | refine blk_drewN ?_ _ | refine blk_drew ?_ | refine blk_alloc ?_ _)); refine blk_far ?_ NB388_394.out _; (with_reducible repeat (first | refine blk_drewN ?_ _ | refine blk_drew ?_ | refine blk_alloc ?_ _)); refine blk_far ?_ NB388_394.out _; (with_reducible repeat (first | refine blk_drewN ?_ _ | refine blk_drew ?_ | refine blk_alloc ?_ _)); refine blk_far ?_ NB388_394.out _; (with_reducible repeat (first | refine blk_drewN ?_ _ | refine blk_drew ?_ | refine blk_alloc ?_ _)); exact BK388.out⟩, ⟨by (with_reducible repeat (first | refine blk_drewN ?_ _ | refine blk_drew ?_ | refine blk_alloc ?_ _)); refine blk_far ?_ NB389_394.out _; (with_reducible repeat (first | refine blk_drewN ?_ _ | refine blk_drew ?_ | refine blk_alloc ?_ _)); refine blk_far ?_ NB389_394.out _; (with_reducible repeat (first | refine blk_drewN ?_ _ | refine blk_drew ?_ | refine blk_alloc ?_ _)); refine blk_far ?_ NB389_394.out _; (with_reducible repeat (first | refine blk_drewN ?_ _ | refine blk_drew ?_ | refine blk_alloc ?_ _)); refine blk_far ?_ NB389_394.out _; (with_reducible repeat (first | refine blk_drewN ?_ _ | refine blk_drew ?_ | refine blk_alloc ?_ _)); refine blk_far ?_ NB389_394.out _; (with_reducible repeat (first | refine blk_drewN ?_ _ | refine blk_drew ?_ | refine blk_alloc ?_ _)); refine blk_far ?_ NB389_394.out _; (with_reducible repeat (first | refine blk_drewN ?_ _ | refine blk_drew ?_ | refine blk_alloc ?_ _)); exact BK389.out⟩, ⟨by (with_reducible repeat (first | refine blk_drewN ?_ _ | refine blk_drew ?_ | refine blk_alloc ?_ _)); refine blk_put (cs := #[.int .i64 a0_0, .bool t390, .slice Ao10 t391.length co10, .string a0_3, .int .i64 a0_4, .slice none 0 0]) ?_ 5 _ rfl; (with_reducible repeat (first | refine blk_drewN ?_ _ | refine blk_drew ?_ | refine blk_alloc ?_ _)); refine blk_put (cs := #[.int .i64 a0_0, .bool t390, .slice Ao10 t391.length co10, .string a0_3, .int .i64 0, .slice none 0 0]) ?_ 4 _ rfl; (with_reducible repeat (first | refine blk_drewN ?_ _ | refine blk_drew ?_ | refine blk_alloc ?_ _)); refine blk_put (cs := #[.int .i64 a0_0, .bool t390, .slice Ao10 t391.length co10, .string (⟨#[]⟩ : ByteArray), .int .i64 0, .slice none 0 0]) ?_ 3 _ rfl; (with_reducible repeat (first | refine blk_drewN ?_ _ | refine blk_drew ?_ | refine blk_alloc ?_ _)); refine blk_put (cs := #[.int .i64 a0_0, .bool t390, .slice none 0 0, .string (⟨#[]⟩ : ByteArray), .int .i64 0, .slice none 0 0]) ?_ 2 _ rfl; (with_reducible repeat (first | refine blk_drewN ?_ _ | refine blk_drew ?_ | refine blk_alloc ?_ _)); refine blk_put (cs := #[.int .i64 a0_0, .bool false, .slice none 0 0, .string (⟨#[]⟩ : ByteArray), .int .i64 0, .slice none 0 0]) ?_ 1 _ rfl; (with_reducible repeat (first | refine blk_drewN ?_ _ | refine blk_drew ?_ | refine blk_alloc ?_ _)); refine blk_put (cs := #[.int .i64 0, .bool false, .slice none 0 0, .string (⟨#[]⟩ : ByteArray), .int .i64 0, .slice none 0 0]) ?_ 0 _ rfl; (with_reducible repeat (first | refine blk_drewN ?_ _ | refine blk_drew ?_ | refine blk_alloc ?_ _)); exact BK394.out⟩, ⟨by repeat (first | (with_reducible first | exact HB.out | apply below_alloc | apply pw_below_drewN | apply below_drew1 | refine below_set ?_ GE388.out | refine below_set ?_ GE389.out | refine below_set ?_ GE394.out) | exact HB.out)⟩⟩
  case round =>
    clear H'
    try clear p2
    try clear c3
    try clear c9
    obtain ⟨x4_1, x395005_1, u395005, rfl, HA, HK1, HO_395002, HO_395005, BK388, BK389, BK394, HB⟩ := hrel
    cases gk with
    | zero => exact absurd HA.out (by simp [relictlaw00_Term.l0])
    | succ k1 =>
      have H := HA.out
      clear HA
      simp only [relictlaw00_Term.l0] at H
      by_cases c17 : x4_1 < (l0_5.length : Int)
      · rw [if_pos c17] at H
        have c17b0 : decide (x4_1 < (l0_5.length : Int)) = true := decide_eq_true c17
        clear c17
        by_cases c18 : 0 ≤ x4_1
        · rw [if_pos c18] at H
          have c18b0 : decide (0 ≤ x4_1) = true := decide_eq_true c18
          clear c18
          replace H := Option.bind_eq_some_iff.mp H
          obtain ⟨⟨t396, t397, t398, t401, t402, t403⟩, A190, H⟩ := H
          replace H : (if x395005_1.length < 1599289640401 then (relictlaw00_Term.l0 k1 (wrap64 (x4_1 + 1)) a0_0 a0_1 l0_2 a0_3 a0_4 l0_5 a0_0 t390 t391 a0_3 a0_4 (x395005_1 ++ [(⟨t396, (⟨t397, t398⟩ : S42), t401, t402, t403⟩ : S45)])) else (none)) = some (r1, r2, r3, r4, r5, r6) := H
          have A19 := Aside0.mk A190
          clear A190
          by_cases c20 : x395005_1.length < 1599289640401
          · rw [if_pos c20] at H
            have LMc20 := Aside0.mk c20
            clear c20
            obtain ⟨y406, hy406⟩ : ∃ y_ : List (S45), y_ = (x395005_1 ++ [(⟨t396, (⟨t397, t398⟩ : S42), t401, t402, t403⟩ : S45)]) := ⟨_, rfl⟩
            replace H : (relictlaw00_Term.l0 k1 (wrap64 (x4_1 + 1)) a0_0 a0_1 l0_2 a0_3 a0_4 l0_5 a0_0 t390 t391 a0_3 a0_4 y406) = some (r1, r2, r3, r4, r5, r6) := by first | (rw [hy406]; with_reducible exact H) | (have H2_ := (Option.bind_some _ _).symm.trans H; rw [hy406]; with_reducible exact H2_) | (have H2_ := (Option.bind_some _ _).symm.trans H; with_reducible exact H2_) | with_reducible exact H | (rw [hy406]; exact H) | exact H
            have Ny406 := Aside0.mk hy406
            clear hy406
            have H' := Aside0.mk H
            clear H
            have hnb21 := NB388_389.out
            have hnc21 := NB389_388.out
            have hnb22 := NB388_394.out
            have hnc22 := NB394_388.out
            have hcz23_0 : wr.cell? ⟨gb388, 0, none⟩ = some (.int .i64 a0_0) := (blk_cell BK388.out 0).trans rfl
            have hcz23_1 : wr.cell? ⟨gb388, 1, none⟩ = some (.bool a0_1) := (blk_cell BK388.out 1).trans rfl
            have hcz23_2 : wr.cell? ⟨gb388, 2, none⟩ = some (.slice A0_2 l0_2.length c0_2) := (blk_cell BK388.out 2).trans rfl
            have hcz23_3 : wr.cell? ⟨gb388, 3, none⟩ = some (.string a0_3) := (blk_cell BK388.out 3).trans rfl
            have hcz23_4 : wr.cell? ⟨gb388, 4, none⟩ = some (.int .i64 a0_4) := (blk_cell BK388.out 4).trans rfl
            have hcz23_5 : wr.cell? ⟨gb388, 5, none⟩ = some (.slice A0_5 l0_5.length c0_5) := (blk_cell BK388.out 5).trans rfl
            have hfz23_0 := blk_frozen BK388.out 0
            have hfz23_1 := blk_frozen BK388.out 1
            have hfz23_2 := blk_frozen BK388.out 2
            have hfz23_3 := blk_frozen BK388.out 3
            have hfz23_4 := blk_frozen BK388.out 4
            have hfz23_5 := blk_frozen BK388.out 5
            try go_wp2
            have n0_ := Aside0.mk (Kd.R_drew HO_395002.out)
            have n1_ := Aside0.mk (Kd.R_drew HO_395005.out)
            have n2_ := Aside0.mk (blk_drew BK388.out)
            have n3_ := Aside0.mk (blk_drew BK389.out)
            have n4_ := Aside0.mk (blk_drew BK394.out)
            have n5_ := Aside0.mk (below_drew1 HB.out)
            clear HO_395002
            clear HO_395005
            clear BK388
            clear BK389
            clear BK394
            clear HB
            have HO_395002 := n0_
            have HO_395005 := n1_
            have BK388 := n2_
            have BK389 := n3_
            have BK394 := n4_
            have HB := n5_
            clear n0_ n1_ n2_ n3_ n4_ n5_
            have p395 : 0 ≤ (x4_1 : Int) := of_decide_eq_true (by first | (with_reducible assumption) | assumption)
            have q395 : x4_1 < (l0_5.length : Int) := of_decide_eq_true (by first | (with_reducible assumption) | assumption)
            obtain ⟨ad395, A395_2, c395_2, A395_5, c395_5, e395, hx395_0, hx395_1, hx395_2, hx395_3, hx395_4, hx395_5, hl395_2, hi395_2, hl395_5, hi395_5⟩ := at_T45 HR0_5.out x4_1 p395 q395
            have hw395_5 := hx395_5
            have hw395_4 := hx395_4
            have hw395_3 := hx395_3
            have hw395_2 := hx395_2
            have hw395_1 := hx395_1
            have hw395_0 := hx395_0
            cases e395
            replace hx395_0 := (HB.out.cell (World.block_lt_of_cell? w _ hx395_0)).trans hx395_0
            replace hx395_1 := (HB.out.cell (World.block_lt_of_cell? w _ hx395_1)).trans hx395_1
            replace hx395_2 := (HB.out.cell (World.block_lt_of_cell? w _ hx395_2)).trans hx395_2
            replace hx395_3 := (HB.out.cell (World.block_lt_of_cell? w _ hx395_3)).trans hx395_3
            replace hx395_4 := (HB.out.cell (World.block_lt_of_cell? w _ hx395_4)).trans hx395_4
            replace hx395_5 := (HB.out.cell (World.block_lt_of_cell? w _ hx395_5)).trans hx395_5
            have HR395_2 := Aside0.mk hi395_2
            have HC395_2 := Aside0.mk hl395_2
            clear hi395_2 hl395_2
            have HR395_5 := Aside0.mk hi395_5
            have HC395_5 := Aside0.mk hl395_5
            clear hi395_5 hl395_5
            replace p395 := eq_true p395
            replace q395 := eq_true q395
            refine start_ (n := 12) (S := fun w' => w'.cell? ⟨gb394, 0, none⟩ = some (.int .i64 a0_0) ∧ w'.cell? ⟨gb394, 1, none⟩ = some (.bool t390) ∧ w'.cell? ⟨gb394, 2, none⟩ = some (.slice Ao10 t391.length co10) ∧ w'.cell? ⟨gb394, 3, none⟩ = some (.string a0_3) ∧ w'.cell? ⟨gb394, 4, none⟩ = some (.int .i64 a0_4) ∧ w'.cell? ⟨gb394, 5, none⟩ = some (u395005) ∧ w'.cell? ⟨gb388, 0, none⟩ = some (.int .i64 a0_0) ∧ w'.cell? ⟨gb388, 1, none⟩ = some (.bool a0_1) ∧ w'.cell? ⟨gb388, 2, none⟩ = some (.slice A0_2 l0_2.length c0_2) ∧ w'.cell? ⟨gb388, 3, none⟩ = some (.string a0_3) ∧ w'.cell? ⟨gb388, 4, none⟩ = some (.int .i64 a0_4) ∧ w'.cell? ⟨gb388, 5, none⟩ = some (.slice (some ad395) l0_5.length c0_5) ∧ w'.cell? (ad395.add ((x4_1).toNat * 6)) = some (.int .i64 ((rd_T45 l0_5 x4_1).f0)) ∧ w'.cell? ⟨(ad395.add ((x4_1).toNat * 6)).block, (ad395.add ((x4_1).toNat * 6)).off + 1, none⟩ = some (.bool ((rd_T45 l0_5 x4_1).f1.f0)) ∧ w'.cell? ⟨(ad395.add ((x4_1).toNat * 6)).block, (ad395.add ((x4_1).toNat * 6)).off + 2, none⟩ = some (.slice A395_2 ((rd_T45 l0_5 x4_1).f1.f1).length c395_2) ∧ w'.cell? ⟨(ad395.add ((x4_1).toNat * 6)).block, (ad395.add ((x4_1).toNat * 6)).off + 3, none⟩ = some (.string ((rd_T45 l0_5 x4_1).f2)) ∧ w'.cell? ⟨(ad395.add ((x4_1).toNat * 6)).block, (ad395.add ((x4_1).toNat * 6)).off + 4, none⟩ = some (.int .i64 ((rd_T45 l0_5 x4_1).f3)) ∧ w'.cell? ⟨(ad395.add ((x4_1).toNat * 6)).block, (ad395.add ((x4_1).toNat * 6)).off + 5, none⟩ = some (.slice A395_5 ((rd_T45 l0_5 x4_1).f4).length c395_5)) (ds := [11]) #[false, false, false, false, false, false, false, false, false, false, false, false] (by kernel_rfl) rfl rfl ⟨(blk_cell BK394.out 0).trans rfl, (blk_cell BK394.out 1).trans rfl, (blk_cell BK394.out 2).trans rfl, (blk_cell BK394.out 3).trans rfl, (blk_cell BK394.out 4).trans rfl, (blk_cell BK394.out 5).trans rfl, (blk_cell BK388.out 0).trans rfl, (blk_cell BK388.out 1).trans rfl, (blk_cell BK388.out 2).trans rfl, (blk_cell BK388.out 3).trans rfl, (blk_cell BK388.out 4).trans rfl, (blk_cell BK388.out 5).trans rfl, ((HB.out.cell (World.block_lt_of_cell? w _ hw395_0)).trans hw395_0), ((HB.out.cell (World.block_lt_of_cell? w _ hw395_1)).trans hw395_1), ((HB.out.cell (World.block_lt_of_cell? w _ hw395_2)).trans hw395_2), ((HB.out.cell (World.block_lt_of_cell? w _ hw395_3)).trans hw395_3), ((HB.out.cell (World.block_lt_of_cell? w _ hw395_4)).trans hw395_4), ((HB.out.cell (World.block_lt_of_cell? w _ hw395_5)).trans hw395_5)⟩ (fun hHeld => ?_); refine with_tabW relictlaw00_Term.tab5 relictlaw00_Term.bits5 (fun HT_ HW_ => ?_)
            generalize wr.drew = w24 at HO_395002 HO_395005 BK388 BK389 BK394 HB HR395_2 HR395_5 hx395_0 hx395_1 hx395_2 hx395_3 hx395_4 hx395_5 hHeld ⊢
            refine pure_ (i := 0) (N := some 22) (v := ?_) (a' := ?_) #[true, false, false, false, false, false, false, false, false, false, false, false] rfl rfl (any_of HT_.out (by kernel_rfl)) (fun _ _ _ h => h) (Or.inl ⟨by rfl, ?_⟩) ?_ ?_
            rotate_left
            · intro w'
              go_simp
              with_reducible rfl
            rotate_left
            · simp only [Act.put, List.setIfInBounds_toArray, List.set_cons_zero, List.set_cons_succ, i64_w, i32_w]
              rfl
            refine pure_ (i := 2) (N := some 24) (v := ?_) (a' := ?_) #[true, false, true, false, false, false, false, false, false, false, false, false] rfl rfl (any_of HT_.out (by kernel_rfl)) (fun _ _ _ h => h) (Or.inl ⟨by rfl, ?_⟩) ?_ ?_
            rotate_left
            · intro w'
              go_simp
              with_reducible rfl
            rotate_left
            · simp only [Act.put, List.setIfInBounds_toArray, List.set_cons_zero, List.set_cons_succ, i64_w, i32_w]
              rfl
            refine pure_ (i := 4) (N := some 26) (v := ?_) (a' := ?_) #[true, false, true, false, true, false, false, false, false, false, false, false] rfl rfl (any_of HT_.out (by kernel_rfl)) (fun _ _ _ h => h) (Or.inl ⟨by rfl, ?_⟩) ?_ ?_
            rotate_left
            · intro w'
              go_simp
              with_reducible rfl
            rotate_left
            · simp only [Act.put, List.setIfInBounds_toArray, List.set_cons_zero, List.set_cons_succ, i64_w, i32_w]
              rfl
            refine take_ (i := 1) (N := some 23) (v := ?_) (a' := ?_) #[true, true, true, false, true, false, false, false, false, false, false, false] rfl rfl (take_ofW HT_.out HW_.out (by kernel_rfl)) (fun _ _ _ h => h) (Or.inl ⟨by rfl, ?_⟩) hHeld ?_ ?_
            rotate_left
            · rintro w' ⟨s0, s1, s2, s3, s4, s5, s6, s7, s8, s9, s10, s11, s12, s13, s14, s15, s16, s17⟩
              go_simp
              with_reducible rfl
            rotate_left
            · simp only [Act.put, List.setIfInBounds_toArray, List.set_cons_zero, List.set_cons_succ, i64_w, i32_w]
              rfl
            refine take_ (i := 3) (N := some 25) (v := ?_) (a' := ?_) #[true, true, true, true, true, false, false, false, false, false, false, false] rfl rfl (take_ofW HT_.out HW_.out (by kernel_rfl)) (fun _ _ _ h => h) (Or.inl ⟨by rfl, ?_⟩) hHeld ?_ ?_
            rotate_left
            · rintro w' ⟨s0, s1, s2, s3, s4, s5, s6, s7, s8, s9, s10, s11, s12, s13, s14, s15, s16, s17⟩
              go_simp
              with_reducible rfl
            rotate_left
            · simp only [Act.put, List.setIfInBounds_toArray, List.set_cons_zero, List.set_cons_succ, i64_w, i32_w]
              rfl
            refine pure_ (i := 5) (N := some 27) (v := ?_) (a' := ?_) #[true, true, true, true, true, true, false, false, false, false, false, false] rfl rfl (any_of HT_.out (by kernel_rfl)) (fun _ _ _ h => h) (Or.inl ⟨by rfl, ?_⟩) ?_ ?_
            rotate_left
            · intro w'
              go_simp
              with_reducible rfl
            rotate_left
            · simp only [Act.put, List.setIfInBounds_toArray, List.set_cons_zero, List.set_cons_succ, i64_w, i32_w]
              rfl
            refine take_ (i := 6) (N := some 28) (v := ?_) (a' := ?_) #[true, true, true, true, true, true, true, false, false, false, false, false] rfl rfl (take_ofW HT_.out HW_.out (by kernel_rfl)) (fun _ _ _ h => h) (Or.inl ⟨by rfl, ?_⟩) hHeld ?_ ?_
            rotate_left
            · rintro w' ⟨s0, s1, s2, s3, s4, s5, s6, s7, s8, s9, s10, s11, s12, s13, s14, s15, s16, s17⟩
              go_simp
              with_reducible rfl
            rotate_left
            · simp only [Act.put, List.setIfInBounds_toArray, List.set_cons_zero, List.set_cons_succ, i64_w, i32_w]
              rfl
            refine one_ (i := 7) (N := some 29) #[true, true, true, true, true, true, true, true, false, false, false, false] rfl rfl (one_of HT_.out (by kernel_rfl)) (by decide) (fun K hK => ?_)
            refine goes_ Try.func39 (by kernel_rfl) rfl #[.agg #[.int .i64 ((rd_T45 l0_5 x4_1).f0), .bool ((rd_T45 l0_5 x4_1).f1.f0), .slice A395_2 ((rd_T45 l0_5 x4_1).f1.f1).length c395_2, .string ((rd_T45 l0_5 x4_1).f2), .int .i64 ((rd_T45 l0_5 x4_1).f3), .slice A395_5 ((rd_T45 l0_5 x4_1).f4).length c395_5]] (by rfl) rfl rfl (by (try simp only [List.map_toArray, List.map_cons, List.map_nil]); first | done | rfl | (simp only [List.length_drop, List.length_take]; rfl)) ?_
            with_reducible refine (ih k1 (by have := HK1.out; omega) ((rd_T45 l0_5 x4_1).f0) ((rd_T45 l0_5 x4_1).f1.f0) _ _ ((rd_T45 l0_5 x4_1).f1.f1) ((rd_T45 l0_5 x4_1).f2) ((rd_T45 l0_5 x4_1).f3) _ _ ((rd_T45 l0_5 x4_1).f4) t396 t397 t398 t401 t402 t403 _ ?side1 ?side2 ?side3 ?side4 A19.out).mono ?_
            (case side1 => repeat (first | exact (Kd.C_below HR395_2.out HB.out) | (with_reducible refine Kd.C_alloc ?_ _) | (with_reducible refine Kd.C_drewN ?_ _) | (with_reducible refine Kd.C_drew ?_)))
            (case side2 => exact HC395_2.out)
            (case side3 => repeat (first | exact (Kd.C_below HR395_5.out HB.out) | (with_reducible refine Kd.C_alloc ?_ _) | (with_reducible refine Kd.C_drewN ?_ _) | (with_reducible refine Kd.C_drew ?_)))
            (case side4 => exact HC395_5.out)
            rintro e w25 ⟨v399, v404, rfl, ho0, ho1, hb⟩
            refine ⟨_, rfl, ?_⟩
            have n0_ := Aside0.mk (Kd.R_elder' (by (with_reducible repeat (first | apply Kd.R_alloc | apply Kd.R_drewN | apply Kd.R_drew)); exact HO_395002.out) (Kd.R_base ho0) hb)
            have n1_ := Aside0.mk (Kd.R_mono (Kd.R_told (Kd.R_told (Kd.R_old (by (with_reducible repeat (first | apply Kd.R_alloc | apply Kd.R_drewN | apply Kd.R_drew)); exact HO_395005.out) hb) (Kd.R_base ho0)) (Kd.R_base ho1)) (fun _ h_ => h_.1))
            have n2_ := Aside0.mk (Kd.R_lower (Kd.R_new' ho0 (Kd.R_lt (by (with_reducible repeat (first | apply Kd.R_alloc | apply Kd.R_drewN | apply Kd.R_drew)); exact HO_395002.out))) (below_size (by repeat (first | (with_reducible first | exact HB.out | apply below_alloc | apply pw_below_drewN | apply below_drew1 | refine below_set ?_ GE388.out | refine below_set ?_ GE389.out | refine below_set ?_ GE394.out) | exact HB.out))))
            have n3_ := Aside0.mk (Kd.R_lower (Kd.R_newB (Kd.R_newB (Kd.R_newB (Kd.R_new' (Kd.R_new' ho1 (Kd.R_lt (by (with_reducible repeat (first | apply Kd.R_alloc | apply Kd.R_drewN | apply Kd.R_drew)); exact HO_395002.out))) (Kd.R_lt (by (with_reducible repeat (first | apply Kd.R_alloc | apply Kd.R_drewN | apply Kd.R_drew)); exact HO_395005.out))) (g := gb388) (o := .cells #[.int .i64 a0_0, .bool a0_1, .slice A0_2 l0_2.length c0_2, .string a0_3, .int .i64 a0_4, .slice (some ad395) l0_5.length c0_5] 45 (0, 0)) (by (with_reducible repeat (first | refine blk_drewN ?_ _ | refine blk_drew ?_ | refine blk_alloc ?_ _)); exact BK388.out)) (g := gb389) (o := .cells #[.int .i64 0, .bool false, .slice none 0 0, .string (⟨#[]⟩ : ByteArray), .int .i64 0, .slice none 0 0] 45 (0, 0)) (by (with_reducible repeat (first | refine blk_drewN ?_ _ | refine blk_drew ?_ | refine blk_alloc ?_ _)); exact BK389.out)) (g := gb394) (o := .cells #[.int .i64 a0_0, .bool t390, .slice Ao10 t391.length co10, .string a0_3, .int .i64 a0_4, u395005] 45 (0, 0)) (by (with_reducible repeat (first | refine blk_drewN ?_ _ | refine blk_drew ?_ | refine blk_alloc ?_ _)); exact BK394.out)) (below_size (by repeat (first | (with_reducible first | exact HB.out | apply below_alloc | apply pw_below_drewN | apply below_drew1 | refine below_set ?_ GE388.out | refine below_set ?_ GE389.out | refine below_set ?_ GE394.out) | exact HB.out))))
            have n4_ := Aside0.mk (blk_below (g := gb388) (o := .cells #[.int .i64 a0_0, .bool a0_1, .slice A0_2 l0_2.length c0_2, .string a0_3, .int .i64 a0_4, .slice (some ad395) l0_5.length c0_5] 45 (0, 0)) (by (with_reducible repeat (first | refine blk_drewN ?_ _ | refine blk_drew ?_ | refine blk_alloc ?_ _)); exact BK388.out) hb)
            have n5_ := Aside0.mk (blk_below (g := gb389) (o := .cells #[.int .i64 0, .bool false, .slice none 0 0, .string (⟨#[]⟩ : ByteArray), .int .i64 0, .slice none 0 0] 45 (0, 0)) (by (with_reducible repeat (first | refine blk_drewN ?_ _ | refine blk_drew ?_ | refine blk_alloc ?_ _)); exact BK389.out) hb)
            have n6_ := Aside0.mk (blk_below (g := gb394) (o := .cells #[.int .i64 a0_0, .bool t390, .slice Ao10 t391.length co10, .string a0_3, .int .i64 a0_4, u395005] 45 (0, 0)) (by (with_reducible repeat (first | refine blk_drewN ?_ _ | refine blk_drew ?_ | refine blk_alloc ?_ _)); exact BK394.out) hb)
            have n7_ := Aside0.mk (below_step (by repeat (first | (with_reducible first | exact HB.out | apply below_alloc | apply pw_below_drewN | apply below_drew1 | refine below_set ?_ GE388.out | refine below_set ?_ GE389.out | refine below_set ?_ GE394.out) | exact HB.out)) hb)
            clear HO_395002
            clear HO_395005
            clear BK388
            clear BK389
            clear BK394
            clear HB
            have HO_395002 := n0_
            have HO_395005 := n1_
            have HO400 := n2_
            have HO405 := n3_
            have BK388 := n4_
            have BK389 := n5_
            have BK394 := n6_
            have HB := n7_
            clear n0_ n1_ n2_ n3_ n4_ n5_ n6_ n7_
            (try clear hb)
            (try clear hb2)
            (try clear hk)
            (try clear hi)
            (try clear ho0)
            (try clear ho1)
            obtain ⟨Ao27, co27, eo27⟩ := Kd.R_slice HO400.out
            (first | subst eo27 | (injection eo27 with f1_ f2_ f3_; have f4_ := f1_.symm; have f5_ := f3_.symm; clear f1_ f2_ f3_; subst f4_; subst f5_))
            obtain ⟨Ao28, co28, eo28⟩ := Kd.R_slice HO405.out
            (first | subst eo28 | (injection eo28 with f1_ f2_ f3_; have f4_ := f1_.symm; have f5_ := f3_.symm; clear f1_ f2_ f3_; subst f4_; subst f5_))
            refine hK.out _ _ ⟨(blk_cell BK394.out 0).trans rfl, (blk_cell BK394.out 1).trans rfl, (blk_cell BK394.out 2).trans rfl, (blk_cell BK394.out 3).trans rfl, (blk_cell BK394.out 4).trans rfl, (blk_cell BK394.out 5).trans rfl, (blk_cell BK388.out 0).trans rfl, (blk_cell BK388.out 1).trans rfl, (blk_cell BK388.out 2).trans rfl, (blk_cell BK388.out 3).trans rfl, (blk_cell BK388.out 4).trans rfl, (blk_cell BK388.out 5).trans rfl, ((HB.out.cell (World.block_lt_of_cell? w _ hw395_0)).trans hw395_0), ((HB.out.cell (World.block_lt_of_cell? w _ hw395_1)).trans hw395_1), ((HB.out.cell (World.block_lt_of_cell? w _ hw395_2)).trans hw395_2), ((HB.out.cell (World.block_lt_of_cell? w _ hw395_3)).trans hw395_3), ((HB.out.cell (World.block_lt_of_cell? w _ hw395_4)).trans hw395_4), ((HB.out.cell (World.block_lt_of_cell? w _ hw395_5)).trans hw395_5)⟩ (fun hHeld => ?_)
            clear hK K
            refine norm_ (a' := ?_) ?_ ?_
            rotate_left
            · show Act.put _ (some 29) _ = _
              simp only [Act.put, List.setIfInBounds_toArray, List.set_cons_zero, List.set_cons_succ, i64_w, i32_w]
              rfl
            refine one_ (i := 8) (N := some 30) #[true, true, true, true, true, true, true, true, true, false, false, false] rfl rfl (one_of HT_.out (by kernel_rfl)) (by decide) (fun K hK => ?_)
            refine value_ (w1 := ?_) (v := ?_) (by rfl) rfl ?_ ?_
            rotate_left 2
            · go_simp
              constructor
              · rfl
              · rfl
            refine hK.out _ _ ⟨(blk_cell (blk_alloc BK394.out _) 0).trans rfl, (blk_cell (blk_alloc BK394.out _) 1).trans rfl, (blk_cell (blk_alloc BK394.out _) 2).trans rfl, (blk_cell (blk_alloc BK394.out _) 3).trans rfl, (blk_cell (blk_alloc BK394.out _) 4).trans rfl, (blk_cell (blk_alloc BK394.out _) 5).trans rfl, (blk_cell (blk_alloc BK388.out _) 0).trans rfl, (blk_cell (blk_alloc BK388.out _) 1).trans rfl, (blk_cell (blk_alloc BK388.out _) 2).trans rfl, (blk_cell (blk_alloc BK388.out _) 3).trans rfl, (blk_cell (blk_alloc BK388.out _) 4).trans rfl, (blk_cell (blk_alloc BK388.out _) 5).trans rfl, (World.cell?_alloc_lt _ _ _ (World.block_lt_of_cell? _ _ (((HB.out.cell (World.block_lt_of_cell? w _ hw395_0)).trans hw395_0)))).trans (((HB.out.cell (World.block_lt_of_cell? w _ hw395_0)).trans hw395_0)), (World.cell?_alloc_lt _ _ _ (World.block_lt_of_cell? _ _ (((HB.out.cell (World.block_lt_of_cell? w _ hw395_1)).trans hw395_1)))).trans (((HB.out.cell (World.block_lt_of_cell? w _ hw395_1)).trans hw395_1)), (World.cell?_alloc_lt _ _ _ (World.block_lt_of_cell? _ _ (((HB.out.cell (World.block_lt_of_cell? w _ hw395_2)).trans hw395_2)))).trans (((HB.out.cell (World.block_lt_of_cell? w _ hw395_2)).trans hw395_2)), (World.cell?_alloc_lt _ _ _ (World.block_lt_of_cell? _ _ (((HB.out.cell (World.block_lt_of_cell? w _ hw395_3)).trans hw395_3)))).trans (((HB.out.cell (World.block_lt_of_cell? w _ hw395_3)).trans hw395_3)), (World.cell?_alloc_lt _ _ _ (World.block_lt_of_cell? _ _ (((HB.out.cell (World.block_lt_of_cell? w _ hw395_4)).trans hw395_4)))).trans (((HB.out.cell (World.block_lt_of_cell? w _ hw395_4)).trans hw395_4)), (World.cell?_alloc_lt _ _ _ (World.block_lt_of_cell? _ _ (((HB.out.cell (World.block_lt_of_cell? w _ hw395_5)).trans hw395_5)))).trans (((HB.out.cell (World.block_lt_of_cell? w _ hw395_5)).trans hw395_5))⟩ (fun hHeld => ?_)
            clear hK K
            refine norm_ (a' := ?_) ?_ ?_
            rotate_left
            · show Act.put _ (some 30) _ = _
              simp only [Act.put, List.setIfInBounds_toArray, List.set_cons_zero, List.set_cons_succ, i64_w, i32_w]
              rfl
            refine one_ (i := 9) (N := some 31) #[true, true, true, true, true, true, true, true, true, true, false, false] rfl rfl (one_of HT_.out (by kernel_rfl)) (by decide) (fun K hK => ?_)
            refine Kd.R_append_step k45 (w0 := w) w.heap.size (by rfl) (.tmp 23) (.tmp 30) 43 45 (.agg #[(.int .i64 0), (.bool false), (.slice none 0 0), (.string ⟨#[]⟩), (.int .i64 0), (.slice none 0 0)]) 88 rfl Try.underlying43 info45 rfl (by decide) (by omega) u395005 x395005_1 (⟨t396, (⟨t397, t398⟩ : S42), t401, t402, t403⟩ : S45) [.int .i64 t396, .bool t397, .slice Ao27 t398.length co27, .string t401, .int .i64 t402, .slice Ao28 t403.length co28] (fun k_ => some k_ ≠ (.slice Ao10 t391.length co10 : Value).ownBlock ∧ k_ ≠ gb388 ∧ k_ ≠ gb389 ∧ k_ ≠ gb394) (fun k_ => ((fun k_ => some k_ ≠ (.slice Ao10 t391.length co10 : Value).ownBlock ∧ k_ ≠ gb388 ∧ k_ ≠ gb389 ∧ k_ ≠ gb394)) k_ ∧ some k_ ≠ (u395005 : Value).ownBlock) rfl rfl ?aP (fun _ hk => hk) ?aF ?aO ?aB ?aS ?aL ?_
            (case aP => exact k45_mkM _ _ _ (⟨t396, (⟨t397, t398⟩ : S42), t401, t402, t403⟩ : S45) (Kd.R_mono (Kd.R_types (Kd.R_types (Kd.R_types (Kd.R_apart' (HO400.out) (Kd.R_typed HO_395005.out) (by decide)) BK388.out (by decide)) BK389.out (by decide)) BK394.out (by decide)) (fun k_ hk => ⟨⟨hk.1.1.1.1.2, ⟨hk.1.1.2, ⟨hk.1.2, hk.2⟩⟩⟩, hk.1.1.1.2⟩)) (Kd.R_mono (HO405.out) (fun k_ hk => ⟨⟨hk.1.1.1.1.2, ⟨hk.1.1.2, ⟨hk.1.2, hk.2⟩⟩⟩, hk.1.1.1.2⟩)))
            (case aB => exact (by repeat (first | (with_reducible first | exact HB.out | apply below_alloc | apply pw_below_drewN | apply below_drew1 | refine below_set ?_ GE388.out | refine below_set ?_ GE389.out | refine below_set ?_ GE394.out) | exact HB.out)))
            (case aF => exact (fun k_ hk => ⟨Kd.fresh' (Kd.R_lt (by (with_reducible repeat (first | apply Kd.R_alloc | apply Kd.R_drewN | apply Kd.R_drew)); exact HO_395002.out)) k_ hk, Kd.freshB (g := gb388) (o := .cells #[.int .i64 a0_0, .bool a0_1, .slice A0_2 l0_2.length c0_2, .string a0_3, .int .i64 a0_4, .slice (some ad395) l0_5.length c0_5] 45 (0, 0)) (by (with_reducible repeat (first | refine blk_drewN ?_ _ | refine blk_drew ?_ | refine blk_alloc ?_ _)); exact BK388.out) k_ hk, Kd.freshB (g := gb389) (o := .cells #[.int .i64 0, .bool false, .slice none 0 0, .string (⟨#[]⟩ : ByteArray), .int .i64 0, .slice none 0 0] 45 (0, 0)) (by (with_reducible repeat (first | refine blk_drewN ?_ _ | refine blk_drew ?_ | refine blk_alloc ?_ _)); exact BK389.out) k_ hk, Kd.freshB (g := gb394) (o := .cells #[.int .i64 a0_0, .bool t390, .slice Ao10 t391.length co10, .string a0_3, .int .i64 a0_4, u395005] 45 (0, 0)) (by (with_reducible repeat (first | refine blk_drewN ?_ _ | refine blk_drew ?_ | refine blk_alloc ?_ _)); exact BK394.out) k_ hk⟩))
            (case aO => exact (by (with_reducible repeat (first | apply Kd.R_alloc | apply Kd.R_drewN | apply Kd.R_drew)); exact Kd.R_mono HO_395005.out (fun _ hk => ⟨hk.1.1.1, ⟨hk.1.1.2.1, ⟨hk.1.1.2.2.1, hk.1.1.2.2.2⟩⟩⟩)))
            (case aS => exact (below_size (by repeat (first | (with_reducible first | exact HB.out | apply below_alloc | apply pw_below_drewN | apply below_drew1 | refine below_set ?_ GE388.out | refine below_set ?_ GE389.out | refine below_set ?_ GE394.out) | exact HB.out))))
            (case aL => have := LMc20.out; omega)
            intro v407 w26 ho hb hg hat
            rw [← Ny406.out] at ho
            have n0_ := Aside0.mk (Kd.R_over' (by (with_reducible repeat (first | apply Kd.R_alloc | apply Kd.R_drewN | apply Kd.R_drew)); exact HO_395002.out) (Kd.R_typed (by (with_reducible repeat (first | apply Kd.R_alloc | apply Kd.R_drewN | apply Kd.R_drew)); exact HO_395005.out)) (by decide) hg)
            have n1_ := Aside0.mk (blk_grown (g := gb388) (o := .cells #[.int .i64 a0_0, .bool a0_1, .slice A0_2 l0_2.length c0_2, .string a0_3, .int .i64 a0_4, .slice (some ad395) l0_5.length c0_5] 45 (0, 0)) (by (with_reducible repeat (first | refine blk_drewN ?_ _ | refine blk_drew ?_ | refine blk_alloc ?_ _)); exact BK388.out) hg (Kd.R_away HO_395005.out (fun _ hk => hk.1.1.2.1)))
            have n2_ := Aside0.mk (blk_grown (g := gb389) (o := .cells #[.int .i64 0, .bool false, .slice none 0 0, .string (⟨#[]⟩ : ByteArray), .int .i64 0, .slice none 0 0] 45 (0, 0)) (by (with_reducible repeat (first | refine blk_drewN ?_ _ | refine blk_drew ?_ | refine blk_alloc ?_ _)); exact BK389.out) hg (Kd.R_away HO_395005.out (fun _ hk => hk.1.1.2.2.1)))
            have n3_ := Aside0.mk (blk_grown (g := gb394) (o := .cells #[.int .i64 a0_0, .bool t390, .slice Ao10 t391.length co10, .string a0_3, .int .i64 a0_4, u395005] 45 (0, 0)) (by (with_reducible repeat (first | refine blk_drewN ?_ _ | refine blk_drew ?_ | refine blk_alloc ?_ _)); exact BK394.out) hg (Kd.R_away HO_395005.out (fun _ hk => hk.1.1.2.2.2)))
            have n4_ := Aside0.mk (hb)
            have n5_ := Aside0.mk (ho)
            clear HO_395002
            clear BK388
            clear BK389
            clear BK394
            clear HB
            clear HO_395005
            clear HO400
            clear HO405
            have HO_395002 := n0_
            have BK388 := n1_
            have BK389 := n2_
            have BK394 := n3_
            have HB := n4_
            have HO408 := n5_
            clear n0_ n1_ n2_ n3_ n4_ n5_
            clear ho hb hg hat
            obtain ⟨Ao29, co29, eo29⟩ := Kd.R_slice HO408.out
            (first | subst eo29 | (injection eo29 with f1_ f2_ f3_; have f4_ := f1_.symm; have f5_ := f3_.symm; clear f1_ f2_ f3_; subst f4_; subst f5_))
            refine hK.out _ _ ⟨(blk_cell BK394.out 0).trans rfl, (blk_cell BK394.out 1).trans rfl, (blk_cell BK394.out 2).trans rfl, (blk_cell BK394.out 3).trans rfl, (blk_cell BK394.out 4).trans rfl, (blk_cell BK394.out 5).trans rfl, (blk_cell BK388.out 0).trans rfl, (blk_cell BK388.out 1).trans rfl, (blk_cell BK388.out 2).trans rfl, (blk_cell BK388.out 3).trans rfl, (blk_cell BK388.out 4).trans rfl, (blk_cell BK388.out 5).trans rfl, ((HB.out.cell (World.block_lt_of_cell? w _ hw395_0)).trans hw395_0), ((HB.out.cell (World.block_lt_of_cell? w _ hw395_1)).trans hw395_1), ((HB.out.cell (World.block_lt_of_cell? w _ hw395_2)).trans hw395_2), ((HB.out.cell (World.block_lt_of_cell? w _ hw395_3)).trans hw395_3), ((HB.out.cell (World.block_lt_of_cell? w _ hw395_4)).trans hw395_4), ((HB.out.cell (World.block_lt_of_cell? w _ hw395_5)).trans hw395_5)⟩ (fun hHeld => ?_)
            clear hK K
            refine norm_ (a' := ?_) ?_ ?_
            rotate_left
            · show Act.put _ (some 31) _ = _
              simp only [Act.put, List.setIfInBounds_toArray, List.set_cons_zero, List.set_cons_succ, i64_w, i32_w]
              rfl
            refine pure_ (i := 10) (N := some 32) (v := ?_) (a' := ?_) #[true, true, true, true, true, true, true, true, true, true, true, false] rfl rfl (any_of HT_.out (by kernel_rfl)) (fun _ _ _ h => h) (Or.inl ⟨by rfl, ?_⟩) ?_ ?_
            rotate_left
            · intro w'
              go_simp
              with_reducible rfl
            rotate_left
            · simp only [Act.put, List.setIfInBounds_toArray, List.set_cons_zero, List.set_cons_succ, i64_w, i32_w]
              rfl
            refine last_ (i := 11) (N := none) #[true, true, true, true, true, true, true, true, true, true, true, true] rfl rfl (one_of HT_.out (by kernel_rfl)) (by decide) (fun K hK => ?_)
            have hs30 : w26.cell? ⟨gb394, 5, none⟩ = some (u395005) := (blk_cell BK394.out 5).trans rfl
            have hfs30 := blk_frozen BK394.out 5
            have hns30_0 := NB388_394.out
            have hns30_1 := NB389_394.out
            have hms30_0 := NB394_388.out
            have hms30_1 := NB394_389.out
            refine skip_ (w1 := ?_) (by rfl) rfl ?_ ?_
            rotate_left
            · go_simp
              rfl
            refine hK.out _ _ ?_
            clear hK K
            refine done_ (done_of HT_.out (by kernel_rfl)) ?_
            try go_wp2
            go_roundg k1
            case measure => have := HK1.out; omega
            case rel => exact ⟨(wrap64 (x4_1 + 1)), (y406), (.slice Ao29 y406.length co29), (by first | rfl | (simp; done) | (simp [*]; done)), H', ⟨by have := HK1.out; omega⟩, ⟨by (with_reducible repeat (first | apply Kd.R_alloc | apply Kd.R_drewN | apply Kd.R_drew)); exact Kd.R_mono (Kd.R_far (p := ⟨gb394, 5, none⟩) (Kd.R_types HO_395002.out BK394.out (by decide)) (fun _ hk => hk.2) (.slice Ao29 y406.length co29)) (fun _ hk => trivial)⟩, ⟨by (with_reducible repeat (first | apply Kd.R_alloc | apply Kd.R_drewN | apply Kd.R_drew)); exact Kd.R_mono (Kd.R_far (p := ⟨gb394, 5, none⟩) (Kd.R_mono HO408.out (fun k_ hk => (⟨hk, hk.2.2.2⟩ : _ ∧ k_ ≠ gb394))) (fun _ hk => hk.2) (.slice Ao29 y406.length co29)) (fun _ hk => ⟨hk.1.1, ⟨hk.1.2.1, ⟨hk.1.2.2.1, hk.1.2.2.2⟩⟩⟩)⟩, ⟨by (with_reducible repeat (first | refine blk_drewN ?_ _ | refine blk_drew ?_ | refine blk_alloc ?_ _)); refine blk_far ?_ NB388_394.out _; (with_reducible repeat (first | refine blk_drewN ?_ _ | refine blk_drew ?_ | refine blk_alloc ?_ _)); exact BK388.out⟩, ⟨by (with_reducible repeat (first | refine blk_drewN ?_ _ | refine blk_drew ?_ | refine blk_alloc ?_ _)); refine blk_far ?_ NB389_394.out _; (with_reducible repeat (first | refine blk_drewN ?_ _ | refine blk_drew ?_ | refine blk_alloc ?_ _)); exact BK389.out⟩, ⟨by (with_reducible repeat (first | refine blk_drewN ?_ _ | refine blk_drew ?_ | refine blk_alloc ?_ _)); refine blk_put (cs := #[.int .i64 a0_0, .bool t390, .slice Ao10 t391.length co10, .string a0_3, .int .i64 a0_4, u395005]) ?_ 5 _ rfl; (with_reducible repeat (first | refine blk_drewN ?_ _ | refine blk_drew ?_ | refine blk_alloc ?_ _)); exact BK394.out⟩, ⟨by repeat (first | (with_reducible first | exact HB.out | apply below_alloc | apply pw_below_drewN | apply below_drew1 | refine below_set ?_ GE388.out | refine below_set ?_ GE389.out | refine below_set ?_ GE394.out) | exact HB.out)⟩⟩
          · rw [if_neg c20] at H
            exact absurd H (by simp)
        · rw [if_neg c18] at H
          exact absurd H (by simp)
      · rw [if_neg c17] at H
        have c17b0 : decide (x4_1 < (l0_5.length : Int)) = false := decide_eq_false c17
        clear c17
        simp only [Option.some.injEq, Prod.mk.injEq] at H
        obtain ⟨rfl, rfl, rfl, rfl, rfl, rfl⟩ := H
        have hnb31 := NB388_389.out
        have hnc31 := NB389_388.out
        have hnb32 := NB388_394.out
        have hnc32 := NB394_388.out
        have hcz33_0 : wr.cell? ⟨gb388, 0, none⟩ = some (.int .i64 a0_0) := (blk_cell BK388.out 0).trans rfl
        have hcz33_1 : wr.cell? ⟨gb388, 1, none⟩ = some (.bool a0_1) := (blk_cell BK388.out 1).trans rfl
        have hcz33_2 : wr.cell? ⟨gb388, 2, none⟩ = some (.slice A0_2 l0_2.length c0_2) := (blk_cell BK388.out 2).trans rfl
        have hcz33_3 : wr.cell? ⟨gb388, 3, none⟩ = some (.string a0_3) := (blk_cell BK388.out 3).trans rfl
        have hcz33_4 : wr.cell? ⟨gb388, 4, none⟩ = some (.int .i64 a0_4) := (blk_cell BK388.out 4).trans rfl
        have hcz33_5 : wr.cell? ⟨gb388, 5, none⟩ = some (.slice A0_5 l0_5.length c0_5) := (blk_cell BK388.out 5).trans rfl
        have hfz33_0 := blk_frozen BK388.out 0
        have hfz33_1 := blk_frozen BK388.out 1
        have hfz33_2 := blk_frozen BK388.out 2
        have hfz33_3 := blk_frozen BK388.out 3
        have hfz33_4 := blk_frozen BK388.out 4
        have hfz33_5 := blk_frozen BK388.out 5
        have hnb34 := NB394_389.out
        have hnc34 := NB389_394.out
        have hcz35_0 : wr.cell? ⟨gb394, 0, none⟩ = some (.int .i64 a0_0) := (blk_cell BK394.out 0).trans rfl
        have hcz35_1 : wr.cell? ⟨gb394, 1, none⟩ = some (.bool t390) := (blk_cell BK394.out 1).trans rfl
        have hcz35_2 : wr.cell? ⟨gb394, 2, none⟩ = some (.slice Ao10 t391.length co10) := (blk_cell BK394.out 2).trans rfl
        have hcz35_3 : wr.cell? ⟨gb394, 3, none⟩ = some (.string a0_3) := (blk_cell BK394.out 3).trans rfl
        have hcz35_4 : wr.cell? ⟨gb394, 4, none⟩ = some (.int .i64 a0_4) := (blk_cell BK394.out 4).trans rfl
        have hcz35_5 : wr.cell? ⟨gb394, 5, none⟩ = some (u395005) := (blk_cell BK394.out 5).trans rfl
        have hfz35_0 := blk_frozen BK394.out 0
        have hfz35_1 := blk_frozen BK394.out 1
        have hfz35_2 := blk_frozen BK394.out 2
        have hfz35_3 := blk_frozen BK394.out 3
        have hfz35_4 := blk_frozen BK394.out 4
        have hfz35_5 := blk_frozen BK394.out 5
        have hcz36_0 : wr.cell? ⟨gb389, 0, none⟩ = some (.int .i64 0) := (blk_cell BK389.out 0).trans rfl
        have hcz36_1 : wr.cell? ⟨gb389, 1, none⟩ = some (.bool false) := (blk_cell BK389.out 1).trans rfl
        have hcz36_2 : wr.cell? ⟨gb389, 2, none⟩ = some (.slice none 0 0) := (blk_cell BK389.out 2).trans rfl
        have hcz36_3 : wr.cell? ⟨gb389, 3, none⟩ = some (.string (⟨#[]⟩ : ByteArray)) := (blk_cell BK389.out 3).trans rfl
        have hcz36_4 : wr.cell? ⟨gb389, 4, none⟩ = some (.int .i64 0) := (blk_cell BK389.out 4).trans rfl
        have hcz36_5 : wr.cell? ⟨gb389, 5, none⟩ = some (.slice none 0 0) := (blk_cell BK389.out 5).trans rfl
        have hfz36_0 := blk_frozen BK389.out 0
        have hfz36_1 := blk_frozen BK389.out 1
        have hfz36_2 := blk_frozen BK389.out 2
        have hfz36_3 := blk_frozen BK389.out 3
        have hfz36_4 := blk_frozen BK389.out 4
        have hfz36_5 := blk_frozen BK389.out 5
        obtain ⟨Ao37, co37, eo37⟩ := Kd.R_slice HO_395005.out
        subst eo37
        go_wp2
        refine bodyPost_ret (results_cell_row rfl _ _ gb389 45 #[.int .i64 a0_0, .bool t390, .slice Ao10 t391.length co10, .string a0_3, .int .i64 a0_4, .slice Ao37 x395005_1.length co37] (0, 0) _ rfl (by (with_reducible repeat (first | refine blk_drewN ?_ _ | refine blk_drew ?_ | refine blk_alloc ?_ _)); refine blk_put (cs := #[.int .i64 a0_0, .bool t390, .slice Ao10 t391.length co10, .string a0_3, .int .i64 a0_4, .slice none 0 0]) ?_ 5 _ rfl; (with_reducible repeat (first | refine blk_drewN ?_ _ | refine blk_drew ?_ | refine blk_alloc ?_ _)); refine blk_put (cs := #[.int .i64 a0_0, .bool t390, .slice Ao10 t391.length co10, .string a0_3, .int .i64 0, .slice none 0 0]) ?_ 4 _ rfl; (with_reducible repeat (first | refine blk_drewN ?_ _ | refine blk_drew ?_ | refine blk_alloc ?_ _)); refine blk_put (cs := #[.int .i64 a0_0, .bool t390, .slice Ao10 t391.length co10, .string (⟨#[]⟩ : ByteArray), .int .i64 0, .slice none 0 0]) ?_ 3 _ rfl; (with_reducible repeat (first | refine blk_drewN ?_ _ | refine blk_drew ?_ | refine blk_alloc ?_ _)); refine blk_put (cs := #[.int .i64 a0_0, .bool t390, .slice none 0 0, .string (⟨#[]⟩ : ByteArray), .int .i64 0, .slice none 0 0]) ?_ 2 _ rfl; (with_reducible repeat (first | refine blk_drewN ?_ _ | refine blk_drew ?_ | refine blk_alloc ?_ _)); refine blk_put (cs := #[.int .i64 a0_0, .bool false, .slice none 0 0, .string (⟨#[]⟩ : ByteArray), .int .i64 0, .slice none 0 0]) ?_ 1 _ rfl; (with_reducible repeat (first | refine blk_drewN ?_ _ | refine blk_drew ?_ | refine blk_alloc ?_ _)); refine blk_put (cs := #[.int .i64 0, .bool false, .slice none 0 0, .string (⟨#[]⟩ : ByteArray), .int .i64 0, .slice none 0 0]) ?_ 0 _ rfl; (with_reducible repeat (first | refine blk_drewN ?_ _ | refine blk_drew ?_ | refine blk_alloc ?_ _)); exact BK389.out) Try.underlying45 rfl (by kernel_rfl)) rfl ?_
        exact ⟨_, _, by first | rfl | (simp [errW_none, errW_some] <;> rfl) | (simp [*, errW_none, errW_some] <;> rfl), by (with_reducible repeat (first | apply Kd.R_alloc | apply Kd.R_drewN | apply Kd.R_drew)); exact Kd.R_mono (Kd.R_far (p := ⟨gb389, 5, none⟩) (Kd.R_far (p := ⟨gb389, 4, none⟩) (Kd.R_far (p := ⟨gb389, 3, none⟩) (Kd.R_far (p := ⟨gb389, 2, none⟩) (Kd.R_far (p := ⟨gb389, 1, none⟩) (Kd.R_far (p := ⟨gb389, 0, none⟩) (Kd.R_types HO_395002.out BK389.out (by decide)) (fun _ hk => hk.2) (.int .i64 a0_0)) (fun _ hk => hk.2) (.bool t390)) (fun _ hk => hk.2) (.slice Ao10 t391.length co10)) (fun _ hk => hk.2) (.string a0_3)) (fun _ hk => hk.2) (.int .i64 a0_4)) (fun _ hk => hk.2) (.slice Ao37 x395005_1.length co37)) (fun _ hk => trivial), by (with_reducible repeat (first | apply Kd.R_alloc | apply Kd.R_drewN | apply Kd.R_drew)); exact Kd.R_mono (Kd.R_far (p := ⟨gb389, 5, none⟩) (Kd.R_far (p := ⟨gb389, 4, none⟩) (Kd.R_far (p := ⟨gb389, 3, none⟩) (Kd.R_far (p := ⟨gb389, 2, none⟩) (Kd.R_far (p := ⟨gb389, 1, none⟩) (Kd.R_far (p := ⟨gb389, 0, none⟩) (Kd.R_mono HO_395005.out (fun k_ hk => (⟨hk, hk.2.2.1⟩ : _ ∧ k_ ≠ gb389))) (fun _ hk => hk.2) (.int .i64 a0_0)) (fun _ hk => hk.2) (.bool t390)) (fun _ hk => hk.2) (.slice Ao10 t391.length co10)) (fun _ hk => hk.2) (.string a0_3)) (fun _ hk => hk.2) (.int .i64 a0_4)) (fun _ hk => hk.2) (.slice Ao37 x395005_1.length co37)) (fun _ hk => hk.1.1), by repeat (first | (with_reducible first | exact HB.out | apply below_alloc | apply pw_below_drewN | apply below_drew1 | refine below_set ?_ GE388.out | refine below_set ?_ GE389.out | refine below_set ?_ GE394.out) | exact HB.out)⟩

end Go.Proofs.Ythdmacdeefohkaa.PMa
