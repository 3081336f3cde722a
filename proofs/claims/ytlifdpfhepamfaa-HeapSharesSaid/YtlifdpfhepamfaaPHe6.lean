-- Printed by the kit's print.py from a list of bodies that this session turned in four places; parts of it are this session's own.
import Derived.Test.YtlifdpfhepamfaaPHe0
import Derived.Test.YtlifdpfhepamfaaPHe5
import Derived.Test.YtlifdpfhepamfaaPHe5b
namespace Go.Proofs.Ytlifdpfhepamfaa.PHe
open Go.RowKit Go.Proofs.YtlifdpfhepamfaaW.PrintWords Go.Proofs.YtlifdpfhepamfaaW.PrintLast Go.Proofs.YtlifdpfhepamfaaW.PrintMore
attribute [local go_sem] max2_int min2_int max_two min_two max_three min_three max_four min_four   -- for this text's walks alone
set_option linter.unusedVariables false
set_option linter.unusedSimpArgs false

/-! ### relictref03_Same: function 47 -/
mutual
def relictref03_Same.j1 : Nat → Bool → Int → Bool → List Int → ByteArray → Int → List (S43) → Int → Bool → List Int → ByteArray → Int → List (S43) → Option (Bool)
  | 0, _, _, _, _, _, _, _, _, _, _, _, _, _ => none
  | k + 1, x5, x253000, x253001, x253002, x253003, x253004, x253005, x254000, x254001, x254002, x254003, x254004, x254005 => if x5 = true then (relictref03_Same.j2 k ((x253005.length : Int) != (x254005.length : Int)) x253000 x253001 x253002 x253003 x253004 x253005 x254000 x254001 x254002 x254003 x254004 x254005) else (relictref03_Same.j2 k true x253000 x253001 x253002 x253003 x253004 x253005 x254000 x254001 x254002 x254003 x254004 x254005)
def relictref03_Same.j2 : Nat → Bool → Int → Bool → List Int → ByteArray → Int → List (S43) → Int → Bool → List Int → ByteArray → Int → List (S43) → Option (Bool)
  | 0, _, _, _, _, _, _, _, _, _, _, _, _, _ => none
  | k + 1, x70, x253000, x253001, x253002, x253003, x253004, x253005, x254000, x254001, x254002, x254003, x254004, x254005 => if x70 = true then (some false) else (relictref03_Same.l0 k 0 x253000 x253001 x253002 x253003 x253004 x253005 x254000 x254001 x254002 x254003 x254004 x254005)
def relictref03_Same.l0 : Nat → Int → Int → Bool → List Int → ByteArray → Int → List (S43) → Int → Bool → List Int → ByteArray → Int → List (S43) → Option (Bool)
  | 0, _, _, _, _, _, _, _, _, _, _, _, _, _ => none
  | k + 1, x6, x253000, x253001, x253002, x253003, x253004, x253005, x254000, x254001, x254002, x254003, x254004, x254005 => if x6 < (x253005.length : Int) then (if 0 ≤ x6 then (if x6 < (x254005.length : Int) then ((relictref03_Same.f k ((rd_T43 x253005 x6).f0) ((rd_T43 x253005 x6).f1.f0) ((rd_T43 x253005 x6).f1.f1) ((rd_T43 x253005 x6).f2) ((rd_T43 x253005 x6).f3) ((rd_T43 x253005 x6).f4) ((rd_T43 x254005 x6).f0) ((rd_T43 x254005 x6).f1.f0) ((rd_T43 x254005 x6).f1.f1) ((rd_T43 x254005 x6).f2) ((rd_T43 x254005 x6).f3) ((rd_T43 x254005 x6).f4)).bind fun t257 => (if t257 = true then (relictref03_Same.l0 k (wrap64 (x6 + 1)) x253000 x253001 x253002 x253003 x253004 x253005 x254000 x254001 x254002 x254003 x254004 x254005) else (some false))) else (none)) else (none)) else (some true)
def relictref03_Same.j0 : Nat → Int → Bool → Int → Bool → List Int → ByteArray → Int → List (S43) → Int → Bool → List Int → ByteArray → Int → List (S43) → Option (Bool)
  | 0, _, _, _, _, _, _, _, _, _, _, _, _, _, _ => none
  | k + 1, x13, x21, x253000, x253001, x253002, x253003, x253004, x253005, x254000, x254001, x254002, x254003, x254004, x254005 => if x21 = true then (some (x253003.toList == x254003.toList)) else (if x13 = 8 then (if x253003.toList = x254003.toList then (some (x253004 == x254004)) else (some false)) else (if x13 = 9 then (some (x253004 == x254004)) else (if x13 = 7 then (relictref03_Same.j1 k (x253004 == x254004) x253000 x253001 x253002 x253003 x253004 x253005 x254000 x254001 x254002 x254003 x254004 x254005) else (if x13 = 4 then (relictref03_Same.j1 k true x253000 x253001 x253002 x253003 x253004 x253005 x254000 x254001 x254002 x254003 x254004 x254005) else (if x13 = 5 then (relictref03_Same.j1 k true x253000 x253001 x253002 x253003 x253004 x253005 x254000 x254001 x254002 x254003 x254004 x254005) else (some true))))))
def relictref03_Same.f : Nat → Int → Bool → List Int → ByteArray → Int → List (S43) → Int → Bool → List Int → ByteArray → Int → List (S43) → Option (Bool)
  | 0, _, _, _, _, _, _, _, _, _, _, _, _ => none
  | k + 1, a0_0, a0_1, l0_2, a0_3, a0_4, l0_5, a1_0, a1_1, l1_2, a1_3, a1_4, l1_5 => if a0_0 = a1_0 then (if a0_0 = 1 then ((relictref03_sameNum.f k a0_1 l0_2 a1_1 l1_2).bind fun t254 => (some t254)) else (if a0_0 = 2 then (relictref03_Same.j0 k a0_0 (a0_0 == 2) a0_0 a0_1 l0_2 a0_3 a0_4 l0_5 a1_0 a1_1 l1_2 a1_3 a1_4 l1_5) else (relictref03_Same.j0 k a0_0 (a0_0 == 6) a0_0 a0_1 l0_2 a0_3 a0_4 l0_5 a1_0 a1_1 l1_2 a1_3 a1_4 l1_5))) else (some false)
end
theorem relictref03_Same.mono_l : ∀ k, (∀ y0 y1 y2 y3 y4 y5 y6 y7 y8 y9 y10 y11, LeO (relictref03_Same.f k y0 y1 y2 y3 y4 y5 y6 y7 y8 y9 y10 y11) (relictref03_Same.f (k + 1) y0 y1 y2 y3 y4 y5 y6 y7 y8 y9 y10 y11)) ∧ (∀ y0 y1 y2 y3 y4 y5 y6 y7 y8 y9 y10 y11 y12, LeO (relictref03_Same.j1 k y0 y1 y2 y3 y4 y5 y6 y7 y8 y9 y10 y11 y12) (relictref03_Same.j1 (k + 1) y0 y1 y2 y3 y4 y5 y6 y7 y8 y9 y10 y11 y12)) ∧ (∀ y0 y1 y2 y3 y4 y5 y6 y7 y8 y9 y10 y11 y12, LeO (relictref03_Same.j2 k y0 y1 y2 y3 y4 y5 y6 y7 y8 y9 y10 y11 y12) (relictref03_Same.j2 (k + 1) y0 y1 y2 y3 y4 y5 y6 y7 y8 y9 y10 y11 y12)) ∧ (∀ y0 y1 y2 y3 y4 y5 y6 y7 y8 y9 y10 y11 y12, LeO (relictref03_Same.l0 k y0 y1 y2 y3 y4 y5 y6 y7 y8 y9 y10 y11 y12) (relictref03_Same.l0 (k + 1) y0 y1 y2 y3 y4 y5 y6 y7 y8 y9 y10 y11 y12)) ∧ (∀ y0 y1 y2 y3 y4 y5 y6 y7 y8 y9 y10 y11 y12 y13, LeO (relictref03_Same.j0 k y0 y1 y2 y3 y4 y5 y6 y7 y8 y9 y10 y11 y12 y13) (relictref03_Same.j0 (k + 1) y0 y1 y2 y3 y4 y5 y6 y7 y8 y9 y10 y11 y12 y13))
  | 0 => ⟨fun _ _ _ _ _ _ _ _ _ _ _ _ r h => by simp [relictref03_Same.f] at h, fun _ _ _ _ _ _ _ _ _ _ _ _ _ r h => by simp [relictref03_Same.j1] at h, fun _ _ _ _ _ _ _ _ _ _ _ _ _ r h => by simp [relictref03_Same.j2] at h, fun _ _ _ _ _ _ _ _ _ _ _ _ _ r h => by simp [relictref03_Same.l0] at h, fun _ _ _ _ _ _ _ _ _ _ _ _ _ _ r h => by simp [relictref03_Same.j0] at h⟩
  | k + 1 => by
    obtain ⟨ih0, ih1, ih2, ih3, ih4⟩ := relictref03_Same.mono_l k
    refine ⟨?_, ?_, ?_, ?_, ?_⟩
    · intro y0 y1 y2 y3 y4 y5 y6 y7 y8 y9 y10 y11
      unfold relictref03_Same.f
      repeat' first
      | (with_reducible exact ih0 _ _ _ _ _ _ _ _ _ _ _ _)
      | (with_reducible exact ih1 _ _ _ _ _ _ _ _ _ _ _ _ _)
      | (with_reducible exact ih2 _ _ _ _ _ _ _ _ _ _ _ _ _)
      | (with_reducible exact ih3 _ _ _ _ _ _ _ _ _ _ _ _ _)
      | (with_reducible exact ih4 _ _ _ _ _ _ _ _ _ _ _ _ _ _)
      | (with_reducible exact relictref03_sameNum.mono _ _ _ _ _)
      | (with_reducible exact LeO.refl _)
      | (with_reducible exact LeO.none _)
      | (with_reducible refine LeO.ite ?_ ?_)
      | (with_reducible refine LeO.bind ?_ (fun _ => ?_))
      | exact ih0 _ _ _ _ _ _ _ _ _ _ _ _
      | exact ih1 _ _ _ _ _ _ _ _ _ _ _ _ _
      | exact ih2 _ _ _ _ _ _ _ _ _ _ _ _ _
      | exact ih3 _ _ _ _ _ _ _ _ _ _ _ _ _
      | exact ih4 _ _ _ _ _ _ _ _ _ _ _ _ _ _
      | exact relictref03_sameNum.mono _ _ _ _ _
      | exact LeO.none _
      | refine LeO.ite ?_ ?_
      | refine LeO.bind ?_ (fun _ => ?_)
    · intro y0 y1 y2 y3 y4 y5 y6 y7 y8 y9 y10 y11 y12
      unfold relictref03_Same.j1
      repeat' first
      | (with_reducible exact ih0 _ _ _ _ _ _ _ _ _ _ _ _)
      | (with_reducible exact ih1 _ _ _ _ _ _ _ _ _ _ _ _ _)
      | (with_reducible exact ih2 _ _ _ _ _ _ _ _ _ _ _ _ _)
      | (with_reducible exact ih3 _ _ _ _ _ _ _ _ _ _ _ _ _)
      | (with_reducible exact ih4 _ _ _ _ _ _ _ _ _ _ _ _ _ _)
      | (with_reducible exact relictref03_sameNum.mono _ _ _ _ _)
      | (with_reducible exact LeO.refl _)
      | (with_reducible exact LeO.none _)
      | (with_reducible refine LeO.ite ?_ ?_)
      | (with_reducible refine LeO.bind ?_ (fun _ => ?_))
      | exact ih0 _ _ _ _ _ _ _ _ _ _ _ _
      | exact ih1 _ _ _ _ _ _ _ _ _ _ _ _ _
      | exact ih2 _ _ _ _ _ _ _ _ _ _ _ _ _
      | exact ih3 _ _ _ _ _ _ _ _ _ _ _ _ _
      | exact ih4 _ _ _ _ _ _ _ _ _ _ _ _ _ _
      | exact relictref03_sameNum.mono _ _ _ _ _
      | exact LeO.none _
      | refine LeO.ite ?_ ?_
      | refine LeO.bind ?_ (fun _ => ?_)
    · intro y0 y1 y2 y3 y4 y5 y6 y7 y8 y9 y10 y11 y12
      unfold relictref03_Same.j2
      repeat' first
      | (with_reducible exact ih0 _ _ _ _ _ _ _ _ _ _ _ _)
      | (with_reducible exact ih1 _ _ _ _ _ _ _ _ _ _ _ _ _)
      | (with_reducible exact ih2 _ _ _ _ _ _ _ _ _ _ _ _ _)
      | (with_reducible exact ih3 _ _ _ _ _ _ _ _ _ _ _ _ _)
      | (with_reducible exact ih4 _ _ _ _ _ _ _ _ _ _ _ _ _ _)
      | (with_reducible exact relictref03_sameNum.mono _ _ _ _ _)
      | (with_reducible exact LeO.refl _)
      | (with_reducible exact LeO.none _)
      | (with_reducible refine LeO.ite ?_ ?_)
      | (with_reducible refine LeO.bind ?_ (fun _ => ?_))
      | exact ih0 _ _ _ _ _ _ _ _ _ _ _ _
      | exact ih1 _ _ _ _ _ _ _ _ _ _ _ _ _
      | exact ih2 _ _ _ _ _ _ _ _ _ _ _ _ _
      | exact ih3 _ _ _ _ _ _ _ _ _ _ _ _ _
      | exact ih4 _ _ _ _ _ _ _ _ _ _ _ _ _ _
      | exact relictref03_sameNum.mono _ _ _ _ _
      | exact LeO.none _
      | refine LeO.ite ?_ ?_
      | refine LeO.bind ?_ (fun _ => ?_)
    · intro y0 y1 y2 y3 y4 y5 y6 y7 y8 y9 y10 y11 y12
      unfold relictref03_Same.l0
      repeat' first
      | (with_reducible exact ih0 _ _ _ _ _ _ _ _ _ _ _ _)
      | (with_reducible exact ih1 _ _ _ _ _ _ _ _ _ _ _ _ _)
      | (with_reducible exact ih2 _ _ _ _ _ _ _ _ _ _ _ _ _)
      | (with_reducible exact ih3 _ _ _ _ _ _ _ _ _ _ _ _ _)
      | (with_reducible exact ih4 _ _ _ _ _ _ _ _ _ _ _ _ _ _)
      | (with_reducible exact relictref03_sameNum.mono _ _ _ _ _)
      | (with_reducible exact LeO.refl _)
      | (with_reducible exact LeO.none _)
      | (with_reducible refine LeO.ite ?_ ?_)
      | (with_reducible refine LeO.bind ?_ (fun _ => ?_))
      | exact ih0 _ _ _ _ _ _ _ _ _ _ _ _
      | exact ih1 _ _ _ _ _ _ _ _ _ _ _ _ _
      | exact ih2 _ _ _ _ _ _ _ _ _ _ _ _ _
      | exact ih3 _ _ _ _ _ _ _ _ _ _ _ _ _
      | exact ih4 _ _ _ _ _ _ _ _ _ _ _ _ _ _
      | exact relictref03_sameNum.mono _ _ _ _ _
      | exact LeO.none _
      | refine LeO.ite ?_ ?_
      | refine LeO.bind ?_ (fun _ => ?_)
    · intro y0 y1 y2 y3 y4 y5 y6 y7 y8 y9 y10 y11 y12 y13
      unfold relictref03_Same.j0
      repeat' first
      | (with_reducible exact ih0 _ _ _ _ _ _ _ _ _ _ _ _)
      | (with_reducible exact ih1 _ _ _ _ _ _ _ _ _ _ _ _ _)
      | (with_reducible exact ih2 _ _ _ _ _ _ _ _ _ _ _ _ _)
      | (with_reducible exact ih3 _ _ _ _ _ _ _ _ _ _ _ _ _)
      | (with_reducible exact ih4 _ _ _ _ _ _ _ _ _ _ _ _ _ _)
      | (with_reducible exact relictref03_sameNum.mono _ _ _ _ _)
      | (with_reducible exact LeO.refl _)
      | (with_reducible exact LeO.none _)
      | (with_reducible refine LeO.ite ?_ ?_)
      | (with_reducible refine LeO.bind ?_ (fun _ => ?_))
      | exact ih0 _ _ _ _ _ _ _ _ _ _ _ _
      | exact ih1 _ _ _ _ _ _ _ _ _ _ _ _ _
      | exact ih2 _ _ _ _ _ _ _ _ _ _ _ _ _
      | exact ih3 _ _ _ _ _ _ _ _ _ _ _ _ _
      | exact ih4 _ _ _ _ _ _ _ _ _ _ _ _ _ _
      | exact relictref03_sameNum.mono _ _ _ _ _
      | exact LeO.none _
      | refine LeO.ite ?_ ?_
      | refine LeO.bind ?_ (fun _ => ?_)
theorem relictref03_Same.mono : ∀ a0 a1 a2 a3 a4 a5 a6 a7 a8 a9 a10 a11 k, LeO (relictref03_Same.f k a0 a1 a2 a3 a4 a5 a6 a7 a8 a9 a10 a11) (relictref03_Same.f (k + 1) a0 a1 a2 a3 a4 a5 a6 a7 a8 a9 a10 a11) := by
  intro a0 a1 a2 a3 a4 a5 a6 a7 a8 a9 a10 a11 k
  obtain ⟨ih0, ih1, ih2, ih3, ih4⟩ := relictref03_Same.mono_l k
  exact ih0 a0 a1 a2 a3 a4 a5 a6 a7 a8 a9 a10 a11
def relictref03_Same.T25 : Bool × List (List Nat × List Nat) := (true, [([], []), ([0], [0]), ([], []), ([1, 2], [1, 2]), ([3], [3]), ([], []), ([5], [5]), ([], []), ([6, 7], [6, 7]), ([8], [8]), ([4, 9], [4, 9]), ([10], [10])])
def relictref03_Same.B25 : List Nat := [0, 1, 0, 7, 15, 0, 32, 0, 224, 480, 1023, 2047]
theorem relictref03_Same.tab25 : rtab .any (opsOf Try.f47 25) = relictref03_Same.T25 := by kernel_rfl
theorem relictref03_Same.bits25 : waitsOk relictref03_Same.T25.2 relictref03_Same.B25 = true := by kernel_rfl
set_option maxHeartbeats 8000000 in
set_option maxRecDepth 100000 in
theorem relictref03_Same.calls (k : Nat) : ∀ (a0_0 : Int) (a0_1 : Bool) (A0_2 : Option Addr) (c0_2 : Nat) (l0_2 : List Int) (a0_3 : ByteArray) (a0_4 : Int) (A0_5 : Option Addr) (c0_5 : Nat) (l0_5 : List (S43)) (a1_0 : Int) (a1_1 : Bool) (A1_2 : Option Addr) (c1_2 : Nat) (l1_2 : List Int) (a1_3 : ByteArray) (a1_4 : Int) (A1_5 : Option Addr) (c1_5 : Nat) (l1_5 : List (S43)) (r : Bool) (w : World) (hr0_2 : Kd.C (Kd.int .u32) w A0_2 l0_2.length l0_2) (hc0_2 : l0_2.length ≤ c0_2) (hr0_5 : Kd.C k43 w A0_5 l0_5.length l0_5) (hc0_5 : l0_5.length ≤ c0_5) (hr1_2 : Kd.C (Kd.int .u32) w A1_2 l1_2.length l1_2) (hc1_2 : l1_2.length ≤ c1_2) (hr1_5 : Kd.C k43 w A1_5 l1_5.length l1_5) (hc1_5 : l1_5.length ≤ c1_5) (h : relictref03_Same.f k a0_0 a0_1 l0_2 a0_3 a0_4 l0_5 a1_0 a1_1 l1_2 a1_3 a1_4 l1_5 = some r),
    Calls Try.prog 47 #[.agg #[.int .i64 a0_0, .bool a0_1, .slice A0_2 l0_2.length c0_2, .string a0_3, .int .i64 a0_4, .slice A0_5 l0_5.length c0_5], .agg #[.int .i64 a1_0, .bool a1_1, .slice A1_2 l1_2.length c1_2, .string a1_3, .int .i64 a1_4, .slice A1_5 l1_5.length c1_5]] w fun e w' => e = .returned (.bool r) ∧ Below w.heap.size w w' := by
  induction k using Nat.strongRecOn with
  | _ k ih =>
  intro a0_0 a0_1 A0_2 c0_2 l0_2 a0_3 a0_4 A0_5 c0_5 l0_5 a1_0 a1_1 A1_2 c1_2 l1_2 a1_3 a1_4 A1_5 c1_5 l1_5 r w hr0_2 hc0_2 hr0_5 hc0_5 hr1_2 hc1_2 hr1_5 hc1_5 h
  cases k with
  | zero => exact absurd h (by simp [relictref03_Same.f])
  | succ k =>
  simp only [relictref03_Same.f] at h
  have hu43 := Try.underlying43
  have hu41 := Try.underlying41
  have HR0_2 := Aside0.mk hr0_2
  have HC0_2 := Aside0.mk hc0_2
  clear hr0_2 hc0_2
  have HR0_5 := Aside0.mk hr0_5
  have HC0_5 := Aside0.mk hc0_5
  clear hr0_5 hc0_5
  have HR1_2 := Aside0.mk hr1_2
  have HC1_2 := Aside0.mk hc1_2
  clear hr1_2 hc1_2
  have HR1_5 := Aside0.mk hr1_5
  have HC1_5 := Aside0.mk hc1_5
  clear hr1_5 hc1_5
  have HB := Aside0.mk (Below.refl w.heap.size w)
  have H : (if a0_0 = a1_0 then (if a0_0 = 1 then ((relictref03_sameNum.f k a0_1 l0_2 a1_1 l1_2).bind fun t254 => (some t254)) else (if a0_0 = 2 then (relictref03_Same.j0 k a0_0 (a0_0 == 2) a0_0 a0_1 l0_2 a0_3 a0_4 l0_5 a1_0 a1_1 l1_2 a1_3 a1_4 l1_5) else (relictref03_Same.j0 k a0_0 (a0_0 == 6) a0_0 a0_1 l0_2 a0_3 a0_4 l0_5 a1_0 a1_1 l1_2 a1_3 a1_4 l1_5))) else (some false)) = some r := h
  clear h
  by_cases c3 : a0_0 = a1_0
  · rw [if_pos c3] at H
    have c3b0 : (a0_0 == a1_0) = true := beq_iff_eq.mpr c3
    have c3b1 : (a0_0 != a1_0) = false := bne_eq_false_iff_eq.mpr c3
    clear c3
    have HC4 := Aside0.mk H
    clear H
    go_enter Try.func47, Try.ntmps47
    go_upto_block 0 with (first | ((with_reducible refine gate_dst (N := 2) rfl ?_); (try (refine gate_guard (by rfl) ?_; dsimp only)); refine box_event ?hg (N := 2) ?hd (cs := #[.int .i64 a0_0, .bool a0_1, .slice A0_2 l0_2.length c0_2, .string a0_3, .int .i64 a0_4, .slice A0_5 l0_5.length c0_5]) (t := 43) ?hr ?_; (case hd => rfl); (case hg => rfl); (case hr => first | (go_simp; done) | (go_simp; rfl)); intro gb252 hg w5 hbox hb; have n0_ := Aside0.mk (below_step (by repeat (first | (with_reducible first | exact HB.out | apply below_alloc | apply pw_below_drewN | apply below_drew1) | exact HB.out)) hb); have n1_ := Aside0.mk (hbox); have n2_ := Aside0.mk ((by rw [hg]; exact (below_size (by repeat (first | (with_reducible first | exact HB.out | apply below_alloc | apply pw_below_drewN | apply below_drew1) | exact HB.out))) : w.heap.size ≤ gb252)); have n3_ := Aside0.mk ((by rw [hg]; exact (below_size (by repeat (first | (with_reducible first | exact HB.out | apply below_alloc | apply pw_below_drewN | apply below_drew1) | exact HB.out))) : w.heap.size ≤ gb252)); clear HB; have HB := n0_; have BK252 := n1_; have GW252 := n2_; have GE252 := n3_; clear n0_ n1_ n2_ n3_; clear hb hbox hg) | ((with_reducible refine gate_dst (N := 3) rfl ?_); (try (refine gate_guard (by rfl) ?_; dsimp only)); refine box_event ?hg (N := 3) ?hd (cs := #[.int .i64 a1_0, .bool a1_1, .slice A1_2 l1_2.length c1_2, .string a1_3, .int .i64 a1_4, .slice A1_5 l1_5.length c1_5]) (t := 43) ?hr ?_; (case hd => rfl); (case hg => rfl); (case hr => first | (go_simp; done) | (go_simp; rfl)); intro gb253 hg w6 hbox hb; have n0_ := Aside0.mk (blk_below (g := gb252) (o := .cells #[.int .i64 a0_0, .bool a0_1, .slice A0_2 l0_2.length c0_2, .string a0_3, .int .i64 a0_4, .slice A0_5 l0_5.length c0_5] 43 (0, 0)) (by (with_reducible repeat (first | refine blk_drewN ?_ _ | refine blk_drew ?_ | refine blk_alloc ?_ _)); exact BK252.out) hb); have n1_ := Aside0.mk (below_step (by repeat (first | (with_reducible first | exact HB.out | apply below_alloc | apply pw_below_drewN | apply below_drew1 | refine below_set ?_ GE252.out) | exact HB.out)) hb); have n2_ := Aside0.mk (hbox); have n3_ := Aside0.mk ((by rw [hg]; exact (below_size (by repeat (first | (with_reducible first | exact HB.out | apply below_alloc | apply pw_below_drewN | apply below_drew1 | refine below_set ?_ GE252.out) | exact HB.out))) : w.heap.size ≤ gb253)); have n4_ := Aside0.mk ((by rw [hg]; exact (below_size (by repeat (first | (with_reducible first | exact HB.out | apply below_alloc | apply pw_below_drewN | apply below_drew1 | refine below_set ?_ GE252.out) | exact HB.out))) : w.heap.size ≤ gb253)); have n5_ := Aside0.mk ((by rw [hg]; exact Nat.ne_of_lt (blk_lt (g := gb252) (o := .cells #[.int .i64 a0_0, .bool a0_1, .slice A0_2 l0_2.length c0_2, .string a0_3, .int .i64 a0_4, .slice A0_5 l0_5.length c0_5] 43 (0, 0)) (by (with_reducible repeat (first | refine blk_drewN ?_ _ | refine blk_drew ?_ | refine blk_alloc ?_ _)); exact BK252.out)) : gb252 ≠ gb253)); have n6_ := Aside0.mk ((by rw [hg]; exact Nat.ne_of_gt (blk_lt (g := gb252) (o := .cells #[.int .i64 a0_0, .bool a0_1, .slice A0_2 l0_2.length c0_2, .string a0_3, .int .i64 a0_4, .slice A0_5 l0_5.length c0_5] 43 (0, 0)) (by (with_reducible repeat (first | refine blk_drewN ?_ _ | refine blk_drew ?_ | refine blk_alloc ?_ _)); exact BK252.out)) : gb253 ≠ gb252)); clear BK252; clear HB; have BK252 := n0_; have HB := n1_; have BK253 := n2_; have GW253 := n3_; have GE253 := n4_; have NB252_253 := n5_; have NB253_252 := n6_; clear n0_ n1_ n2_ n3_ n4_ n5_ n6_; clear hb hbox hg; have hnb7 := NB252_253.out; have hnc7 := NB253_252.out; have hcz8_0 : w6.cell? ⟨gb252, 0, none⟩ = some (.int .i64 a0_0) := (blk_cell BK252.out 0).trans rfl; have hcz8_1 : w6.cell? ⟨gb252, 1, none⟩ = some (.bool a0_1) := (blk_cell BK252.out 1).trans rfl; have hcz8_2 : w6.cell? ⟨gb252, 2, none⟩ = some (.slice A0_2 l0_2.length c0_2) := (blk_cell BK252.out 2).trans rfl; have hcz8_3 : w6.cell? ⟨gb252, 3, none⟩ = some (.string a0_3) := (blk_cell BK252.out 3).trans rfl; have hcz8_4 : w6.cell? ⟨gb252, 4, none⟩ = some (.int .i64 a0_4) := (blk_cell BK252.out 4).trans rfl; have hcz8_5 : w6.cell? ⟨gb252, 5, none⟩ = some (.slice A0_5 l0_5.length c0_5) := (blk_cell BK252.out 5).trans rfl; have hfz8_0 := blk_frozen BK252.out 0; have hfz8_1 := blk_frozen BK252.out 1; have hfz8_2 := blk_frozen BK252.out 2; have hfz8_3 := blk_frozen BK252.out 3; have hfz8_4 := blk_frozen BK252.out 4; have hfz8_5 := blk_frozen BK252.out 5; have hcz9_0 : w6.cell? ⟨gb253, 0, none⟩ = some (.int .i64 a1_0) := (blk_cell BK253.out 0).trans rfl; have hcz9_1 : w6.cell? ⟨gb253, 1, none⟩ = some (.bool a1_1) := (blk_cell BK253.out 1).trans rfl; have hcz9_2 : w6.cell? ⟨gb253, 2, none⟩ = some (.slice A1_2 l1_2.length c1_2) := (blk_cell BK253.out 2).trans rfl; have hcz9_3 : w6.cell? ⟨gb253, 3, none⟩ = some (.string a1_3) := (blk_cell BK253.out 3).trans rfl; have hcz9_4 : w6.cell? ⟨gb253, 4, none⟩ = some (.int .i64 a1_4) := (blk_cell BK253.out 4).trans rfl; have hcz9_5 : w6.cell? ⟨gb253, 5, none⟩ = some (.slice A1_5 l1_5.length c1_5) := (blk_cell BK253.out 5).trans rfl; have hfz9_0 := blk_frozen BK253.out 0; have hfz9_1 := blk_frozen BK253.out 1; have hfz9_2 := blk_frozen BK253.out 2; have hfz9_3 := blk_frozen BK253.out 3; have hfz9_4 := blk_frozen BK253.out 4; have hfz9_5 := blk_frozen BK253.out 5))
    (try simp only [Act.put, List.setIfInBounds_toArray, List.set_cons_zero, List.set_cons_succ])
    go_cut [5] (fun v5 wc => ∃ (kq : Nat) (x5_3 : Bool), v5 = .bool x5_3 ∧ Aside0 (relictref03_Same.j1 kq x5_3 a0_0 a0_1 l0_2 a0_3 a0_4 l0_5 a1_0 a1_1 l1_2 a1_3 a1_4 l1_5 = some r) ∧ Aside0 (kq ≤ k) ∧ Aside0 (wc.heap[gb252]? = some (.cells #[.int .i64 a0_0, .bool a0_1, (.slice A0_2 l0_2.length c0_2), .string a0_3, .int .i64 a0_4, (.slice A0_5 l0_5.length c0_5)] 43 (0, 0))) ∧ Aside0 (wc.heap[gb253]? = some (.cells #[.int .i64 a1_0, .bool a1_1, (.slice A1_2 l1_2.length c1_2), .string a1_3, .int .i64 a1_4, (.slice A1_5 l1_5.length c1_5)] 43 (0, 0))) ∧ Aside0 (Below w.heap.size w wc))
    case first =>
      have H := HC4.out
      clear HC4
      by_cases c10 : a0_0 = 1
      · rw [if_pos c10] at H
        have c10b0 : (a0_0 == 1) = true := beq_iff_eq.mpr c10
        have c10b1 : (a0_0 != 1) = false := bne_eq_false_iff_eq.mpr c10
        clear c10
        (first | rw [c10b0] | (simp only [i64_w, i32_w]; rw [c10b0]) | skip)
        replace H := Option.bind_eq_some_iff.mp H
        obtain ⟨t254, A110, H⟩ := H
        replace H : (some t254) = some r := H
        have A11 := Aside0.mk A110
        clear A110
        obtain rfl := Option.some.inj H
        have hnb12 := NB252_253.out
        have hnc12 := NB253_252.out
        have hcz13_0 : w6.cell? ⟨gb252, 0, none⟩ = some (.int .i64 a0_0) := (blk_cell BK252.out 0).trans rfl
        have hcz13_1 : w6.cell? ⟨gb252, 1, none⟩ = some (.bool a0_1) := (blk_cell BK252.out 1).trans rfl
        have hcz13_2 : w6.cell? ⟨gb252, 2, none⟩ = some (.slice A0_2 l0_2.length c0_2) := (blk_cell BK252.out 2).trans rfl
        have hcz13_3 : w6.cell? ⟨gb252, 3, none⟩ = some (.string a0_3) := (blk_cell BK252.out 3).trans rfl
        have hcz13_4 : w6.cell? ⟨gb252, 4, none⟩ = some (.int .i64 a0_4) := (blk_cell BK252.out 4).trans rfl
        have hcz13_5 : w6.cell? ⟨gb252, 5, none⟩ = some (.slice A0_5 l0_5.length c0_5) := (blk_cell BK252.out 5).trans rfl
        have hfz13_0 := blk_frozen BK252.out 0
        have hfz13_1 := blk_frozen BK252.out 1
        have hfz13_2 := blk_frozen BK252.out 2
        have hfz13_3 := blk_frozen BK252.out 3
        have hfz13_4 := blk_frozen BK252.out 4
        have hfz13_5 := blk_frozen BK252.out 5
        have hcz14_0 : w6.cell? ⟨gb253, 0, none⟩ = some (.int .i64 a1_0) := (blk_cell BK253.out 0).trans rfl
        have hcz14_1 : w6.cell? ⟨gb253, 1, none⟩ = some (.bool a1_1) := (blk_cell BK253.out 1).trans rfl
        have hcz14_2 : w6.cell? ⟨gb253, 2, none⟩ = some (.slice A1_2 l1_2.length c1_2) := (blk_cell BK253.out 2).trans rfl
        have hcz14_3 : w6.cell? ⟨gb253, 3, none⟩ = some (.string a1_3) := (blk_cell BK253.out 3).trans rfl
        have hcz14_4 : w6.cell? ⟨gb253, 4, none⟩ = some (.int .i64 a1_4) := (blk_cell BK253.out 4).trans rfl
        have hcz14_5 : w6.cell? ⟨gb253, 5, none⟩ = some (.slice A1_5 l1_5.length c1_5) := (blk_cell BK253.out 5).trans rfl
        have hfz14_0 := blk_frozen BK253.out 0
        have hfz14_1 := blk_frozen BK253.out 1
        have hfz14_2 := blk_frozen BK253.out 2
        have hfz14_3 := blk_frozen BK253.out 3
        have hfz14_4 := blk_frozen BK253.out 4
        have hfz14_5 := blk_frozen BK253.out 5
        go_wp2_with (first | ((with_reducible refine gate_callee (f := 100) rfl ?_); refine goesL_ (some 20) rfl rfl Try.func100 (by kernel_rfl) rfl #[.agg #[.bool a0_1, .slice A0_2 l0_2.length c0_2], .agg #[.bool a1_1, .slice A1_2 l1_2.length c1_2]] rfl (by (try simp only [List.map_toArray, List.map_cons, List.map_nil]); first | done | rfl | (simp only [List.length_drop, List.length_take]; rfl)) ?_; (with_reducible refine (relictref03_sameNum.calls k a0_1 _ _ l0_2 a1_1 _ _ l1_2 t254 _ ?side1 ?side2 ?side3 ?side4 A11.out).mono ?_); (case side1 => repeat (first | exact (Kd.C_below HR0_2.out HB.out) | (with_reducible refine Kd.C_alloc ?_ _) | (with_reducible refine Kd.C_drewN ?_ _) | (with_reducible refine Kd.C_drew ?_))); (case side2 => exact HC0_2.out); (case side3 => repeat (first | exact (Kd.C_below HR1_2.out HB.out) | (with_reducible refine Kd.C_alloc ?_ _) | (with_reducible refine Kd.C_drewN ?_ _) | (with_reducible refine Kd.C_drew ?_))); (case side4 => exact HC1_2.out); rintro e w15 ⟨rfl, hb⟩; refine ⟨_, rfl, ?_⟩; have n0_ := Aside0.mk (blk_below (g := gb252) (o := .cells #[.int .i64 a0_0, .bool a0_1, .slice A0_2 l0_2.length c0_2, .string a0_3, .int .i64 a0_4, .slice A0_5 l0_5.length c0_5] 43 (0, 0)) (by (with_reducible repeat (first | refine blk_drewN ?_ _ | refine blk_drew ?_ | refine blk_alloc ?_ _)); exact BK252.out) hb); have n1_ := Aside0.mk (blk_below (g := gb253) (o := .cells #[.int .i64 a1_0, .bool a1_1, .slice A1_2 l1_2.length c1_2, .string a1_3, .int .i64 a1_4, .slice A1_5 l1_5.length c1_5] 43 (0, 0)) (by (with_reducible repeat (first | refine blk_drewN ?_ _ | refine blk_drew ?_ | refine blk_alloc ?_ _)); exact BK253.out) hb); have n2_ := Aside0.mk (below_step (by repeat (first | (with_reducible first | exact HB.out | apply below_alloc | apply pw_below_drewN | apply below_drew1 | refine below_set ?_ GE252.out | refine below_set ?_ GE253.out) | exact HB.out)) hb); clear BK252; clear BK253; clear HB; have BK252 := n0_; have BK253 := n1_; have HB := n2_; clear n0_ n1_ n2_; (try clear hb); (try clear hb2); (try clear hk); (try clear hi)))
        go_ret
        exact ⟨by first | rfl | (simp [errW_none, errW_some] <;> rfl) | (simp [*, errW_none, errW_some] <;> rfl), by repeat (first | (with_reducible first | exact HB.out | apply below_alloc | apply pw_below_drewN | apply below_drew1 | refine below_set ?_ GE252.out | refine below_set ?_ GE253.out) | exact HB.out)⟩
      · rw [if_neg c10] at H
        have c10b0 : (a0_0 == 1) = false := beq_eq_false_iff_ne.mpr c10
        have c10b1 : (a0_0 != 1) = true := bne_iff_ne.mpr c10
        (first | rw [c10b0] | (simp only [i64_w, i32_w]; rw [c10b0]) | skip)
        have HC16 := Aside0.mk H
        clear H
        go_upto_if 21 with (fail)
        go_cut [21] (fun v21 wc => ∃ (kq : Nat) (x21_15 : Bool), v21 = .bool x21_15 ∧ Aside0 (relictref03_Same.j0 kq a0_0 x21_15 a0_0 a0_1 l0_2 a0_3 a0_4 l0_5 a1_0 a1_1 l1_2 a1_3 a1_4 l1_5 = some r) ∧ Aside0 (kq ≤ k) ∧ Aside0 (wc.heap[gb252]? = some (.cells #[.int .i64 a0_0, .bool a0_1, (.slice A0_2 l0_2.length c0_2), .string a0_3, .int .i64 a0_4, (.slice A0_5 l0_5.length c0_5)] 43 (0, 0))) ∧ Aside0 (wc.heap[gb253]? = some (.cells #[.int .i64 a1_0, .bool a1_1, (.slice A1_2 l1_2.length c1_2), .string a1_3, .int .i64 a1_4, (.slice A1_5 l1_5.length c1_5)] 43 (0, 0))) ∧ Aside0 (Below w.heap.size w wc))
        case first =>
          have H := HC16.out
          clear HC16
          by_cases c17 : a0_0 = 2
          · rw [if_pos c17] at H
            have c17b0 : (a0_0 == 2) = true := beq_iff_eq.mpr c17
            have c17b1 : (a0_0 != 2) = false := bne_eq_false_iff_eq.mpr c17
            clear c17
            (first | rw [c17b0] | (simp only [i64_w, i32_w]; rw [c17b0]) | skip)
            have H' := Aside0.mk H
            clear H
            go_wp2
            go_meet
            case rel => exact ⟨_, ((a0_0 == 2)), (by first | rfl | (simp; done) | (simp [*]; done)), H', ⟨by first | omega | exact Nat.le_refl _⟩, ⟨by (with_reducible repeat (first | refine blk_drewN ?_ _ | refine blk_drew ?_ | refine blk_alloc ?_ _)); exact BK252.out⟩, ⟨by (with_reducible repeat (first | refine blk_drewN ?_ _ | refine blk_drew ?_ | refine blk_alloc ?_ _)); exact BK253.out⟩, ⟨by repeat (first | (with_reducible first | exact HB.out | apply below_alloc | apply pw_below_drewN | apply below_drew1 | refine below_set ?_ GE252.out | refine below_set ?_ GE253.out) | exact HB.out)⟩⟩
          · rw [if_neg c17] at H
            have c17b0 : (a0_0 == 2) = false := beq_eq_false_iff_ne.mpr c17
            have c17b1 : (a0_0 != 2) = true := bne_iff_ne.mpr c17
            (first | rw [c17b0] | (simp only [i64_w, i32_w]; rw [c17b0]) | skip)
            have H' := Aside0.mk H
            clear H
            go_wp2
            go_meet
            case rel => exact ⟨_, ((a0_0 == 6)), (by first | rfl | (simp; done) | (simp [*]; done)), H', ⟨by first | omega | exact Nat.le_refl _⟩, ⟨by (with_reducible repeat (first | refine blk_drewN ?_ _ | refine blk_drew ?_ | refine blk_alloc ?_ _)); exact BK252.out⟩, ⟨by (with_reducible repeat (first | refine blk_drewN ?_ _ | refine blk_drew ?_ | refine blk_alloc ?_ _)); exact BK253.out⟩, ⟨by repeat (first | (with_reducible first | exact HB.out | apply below_alloc | apply pw_below_drewN | apply below_drew1 | refine below_set ?_ GE252.out | refine below_set ?_ GE253.out) | exact HB.out)⟩⟩
        case rest =>
          clear HC16
          try clear c1
          try clear p2
          try clear c3
          try clear c3b0
          try clear c3b1
          try clear c4
          try clear c7
          try clear c10
          try clear c10b0
          try clear c10b1
          try clear c12
          try clear c17
          try clear c17b0
          try clear c17b1
          try clear hcz13_0
          try clear hcz13_1
          try clear hcz13_2
          try clear hcz13_3
          try clear hcz13_4
          try clear hcz13_5
          try clear hcz14_0
          try clear hcz14_1
          try clear hcz14_2
          try clear hcz14_3
          try clear hcz14_4
          try clear hcz14_5
          try clear hcz8_0
          try clear hcz8_1
          try clear hcz8_2
          try clear hcz8_3
          try clear hcz8_4
          try clear hcz8_5
          try clear hcz9_0
          try clear hcz9_1
          try clear hcz9_2
          try clear hcz9_3
          try clear hcz9_4
          try clear hcz9_5
          try clear hfz13_0
          try clear hfz13_1
          try clear hfz13_2
          try clear hfz13_3
          try clear hfz13_4
          try clear hfz13_5
          try clear hfz14_0
          try clear hfz14_1
          try clear hfz14_2
          try clear hfz14_3
          try clear hfz14_4
          try clear hfz14_5
          try clear hfz8_0
          try clear hfz8_1
          try clear hfz8_2
          try clear hfz8_3
          try clear hfz8_4
          try clear hfz8_5
          try clear hfz9_0
          try clear hfz9_1
          try clear hfz9_2
          try clear hfz9_3
          try clear hfz9_4
          try clear hfz9_5
          obtain ⟨kq, x21_15, rfl, HA, HJ15, BK252, BK253, HB⟩ := hcut
          cases kq with
          | zero => exact absurd HA.out (by simp [relictref03_Same.j0])
          | succ kj15 =>
            have H := HA.out
            clear HA
            simp only [relictref03_Same.j0] at H
            by_cases c18 : x21_15 = true
            · subst c18
              have H1 : (some (a0_3.toList == a1_3.toList)) = some r := by rw [if_pos rfl] at H; exact H
              clear H
              have H := H1
              clear H1
              obtain rfl := Option.some.inj H
              have hnb19 := NB252_253.out
              have hnc19 := NB253_252.out
              have hcz20_0 : wc.cell? ⟨gb252, 0, none⟩ = some (.int .i64 a0_0) := (blk_cell BK252.out 0).trans rfl
              have hcz20_1 : wc.cell? ⟨gb252, 1, none⟩ = some (.bool a0_1) := (blk_cell BK252.out 1).trans rfl
              have hcz20_2 : wc.cell? ⟨gb252, 2, none⟩ = some (.slice A0_2 l0_2.length c0_2) := (blk_cell BK252.out 2).trans rfl
              have hcz20_3 : wc.cell? ⟨gb252, 3, none⟩ = some (.string a0_3) := (blk_cell BK252.out 3).trans rfl
              have hcz20_4 : wc.cell? ⟨gb252, 4, none⟩ = some (.int .i64 a0_4) := (blk_cell BK252.out 4).trans rfl
              have hcz20_5 : wc.cell? ⟨gb252, 5, none⟩ = some (.slice A0_5 l0_5.length c0_5) := (blk_cell BK252.out 5).trans rfl
              have hfz20_0 := blk_frozen BK252.out 0
              have hfz20_1 := blk_frozen BK252.out 1
              have hfz20_2 := blk_frozen BK252.out 2
              have hfz20_3 := blk_frozen BK252.out 3
              have hfz20_4 := blk_frozen BK252.out 4
              have hfz20_5 := blk_frozen BK252.out 5
              have hcz21_0 : wc.cell? ⟨gb253, 0, none⟩ = some (.int .i64 a1_0) := (blk_cell BK253.out 0).trans rfl
              have hcz21_1 : wc.cell? ⟨gb253, 1, none⟩ = some (.bool a1_1) := (blk_cell BK253.out 1).trans rfl
              have hcz21_2 : wc.cell? ⟨gb253, 2, none⟩ = some (.slice A1_2 l1_2.length c1_2) := (blk_cell BK253.out 2).trans rfl
              have hcz21_3 : wc.cell? ⟨gb253, 3, none⟩ = some (.string a1_3) := (blk_cell BK253.out 3).trans rfl
              have hcz21_4 : wc.cell? ⟨gb253, 4, none⟩ = some (.int .i64 a1_4) := (blk_cell BK253.out 4).trans rfl
              have hcz21_5 : wc.cell? ⟨gb253, 5, none⟩ = some (.slice A1_5 l1_5.length c1_5) := (blk_cell BK253.out 5).trans rfl
              have hfz21_0 := blk_frozen BK253.out 0
              have hfz21_1 := blk_frozen BK253.out 1
              have hfz21_2 := blk_frozen BK253.out 2
              have hfz21_3 := blk_frozen BK253.out 3
              have hfz21_4 := blk_frozen BK253.out 4
              have hfz21_5 := blk_frozen BK253.out 5
              go_wp2
              go_ret
              exact ⟨by first | rfl | (simp [errW_none, errW_some] <;> rfl) | (simp [*, errW_none, errW_some] <;> rfl), by repeat (first | (with_reducible first | exact HB.out | apply below_alloc | apply pw_below_drewN | apply below_drew1 | refine below_set ?_ GE252.out | refine below_set ?_ GE253.out) | exact HB.out)⟩
            · replace c18 := Bool.eq_false_iff.mpr c18
              subst c18
              have H1 : (if a0_0 = 8 then (if a0_3.toList = a1_3.toList then (some (a0_4 == a1_4)) else (some false)) else (if a0_0 = 9 then (some (a0_4 == a1_4)) else (if a0_0 = 7 then (relictref03_Same.j1 kj15 (a0_4 == a1_4) a0_0 a0_1 l0_2 a0_3 a0_4 l0_5 a1_0 a1_1 l1_2 a1_3 a1_4 l1_5) else (if a0_0 = 4 then (relictref03_Same.j1 kj15 true a0_0 a0_1 l0_2 a0_3 a0_4 l0_5 a1_0 a1_1 l1_2 a1_3 a1_4 l1_5) else (if a0_0 = 5 then (relictref03_Same.j1 kj15 true a0_0 a0_1 l0_2 a0_3 a0_4 l0_5 a1_0 a1_1 l1_2 a1_3 a1_4 l1_5) else (some true)))))) = some r := by rw [if_neg (show ¬ (false = true) by decide)] at H; exact H
              clear H
              have H := H1
              clear H1
              by_cases c22 : a0_0 = 8
              · rw [if_pos c22] at H
                have c22b0 : (a0_0 == 8) = true := beq_iff_eq.mpr c22
                have c22b1 : (a0_0 != 8) = false := bne_eq_false_iff_eq.mpr c22
                clear c22
                by_cases c23 : a0_3.toList = a1_3.toList
                · rw [if_pos c23] at H
                  have c23b0 : (a0_3.toList == a1_3.toList) = true := beq_iff_eq.mpr c23
                  have c23b1 : (a0_3.toList != a1_3.toList) = false := bne_eq_false_iff_eq.mpr c23
                  clear c23
                  obtain rfl := Option.some.inj H
                  have hnb24 := NB252_253.out
                  have hnc24 := NB253_252.out
                  have hcz25_0 : wc.cell? ⟨gb252, 0, none⟩ = some (.int .i64 a0_0) := (blk_cell BK252.out 0).trans rfl
                  have hcz25_1 : wc.cell? ⟨gb252, 1, none⟩ = some (.bool a0_1) := (blk_cell BK252.out 1).trans rfl
                  have hcz25_2 : wc.cell? ⟨gb252, 2, none⟩ = some (.slice A0_2 l0_2.length c0_2) := (blk_cell BK252.out 2).trans rfl
                  have hcz25_3 : wc.cell? ⟨gb252, 3, none⟩ = some (.string a0_3) := (blk_cell BK252.out 3).trans rfl
                  have hcz25_4 : wc.cell? ⟨gb252, 4, none⟩ = some (.int .i64 a0_4) := (blk_cell BK252.out 4).trans rfl
                  have hcz25_5 : wc.cell? ⟨gb252, 5, none⟩ = some (.slice A0_5 l0_5.length c0_5) := (blk_cell BK252.out 5).trans rfl
                  have hfz25_0 := blk_frozen BK252.out 0
                  have hfz25_1 := blk_frozen BK252.out 1
                  have hfz25_2 := blk_frozen BK252.out 2
                  have hfz25_3 := blk_frozen BK252.out 3
                  have hfz25_4 := blk_frozen BK252.out 4
                  have hfz25_5 := blk_frozen BK252.out 5
                  have hcz26_0 : wc.cell? ⟨gb253, 0, none⟩ = some (.int .i64 a1_0) := (blk_cell BK253.out 0).trans rfl
                  have hcz26_1 : wc.cell? ⟨gb253, 1, none⟩ = some (.bool a1_1) := (blk_cell BK253.out 1).trans rfl
                  have hcz26_2 : wc.cell? ⟨gb253, 2, none⟩ = some (.slice A1_2 l1_2.length c1_2) := (blk_cell BK253.out 2).trans rfl
                  have hcz26_3 : wc.cell? ⟨gb253, 3, none⟩ = some (.string a1_3) := (blk_cell BK253.out 3).trans rfl
                  have hcz26_4 : wc.cell? ⟨gb253, 4, none⟩ = some (.int .i64 a1_4) := (blk_cell BK253.out 4).trans rfl
                  have hcz26_5 : wc.cell? ⟨gb253, 5, none⟩ = some (.slice A1_5 l1_5.length c1_5) := (blk_cell BK253.out 5).trans rfl
                  have hfz26_0 := blk_frozen BK253.out 0
                  have hfz26_1 := blk_frozen BK253.out 1
                  have hfz26_2 := blk_frozen BK253.out 2
                  have hfz26_3 := blk_frozen BK253.out 3
                  have hfz26_4 := blk_frozen BK253.out 4
                  have hfz26_5 := blk_frozen BK253.out 5
                  go_wp2
                  go_ret
                  exact ⟨by first | rfl | (simp [errW_none, errW_some] <;> rfl) | (simp [*, errW_none, errW_some] <;> rfl), by repeat (first | (with_reducible first | exact HB.out | apply below_alloc | apply pw_below_drewN | apply below_drew1 | refine below_set ?_ GE252.out | refine below_set ?_ GE253.out) | exact HB.out)⟩
                · rw [if_neg c23] at H
                  have c23b0 : (a0_3.toList == a1_3.toList) = false := beq_eq_false_iff_ne.mpr c23
                  have c23b1 : (a0_3.toList != a1_3.toList) = true := bne_iff_ne.mpr c23
                  obtain rfl := Option.some.inj H
                  have hnb27 := NB252_253.out
                  have hnc27 := NB253_252.out
                  have hcz28_0 : wc.cell? ⟨gb252, 0, none⟩ = some (.int .i64 a0_0) := (blk_cell BK252.out 0).trans rfl
                  have hcz28_1 : wc.cell? ⟨gb252, 1, none⟩ = some (.bool a0_1) := (blk_cell BK252.out 1).trans rfl
                  have hcz28_2 : wc.cell? ⟨gb252, 2, none⟩ = some (.slice A0_2 l0_2.length c0_2) := (blk_cell BK252.out 2).trans rfl
                  have hcz28_3 : wc.cell? ⟨gb252, 3, none⟩ = some (.string a0_3) := (blk_cell BK252.out 3).trans rfl
                  have hcz28_4 : wc.cell? ⟨gb252, 4, none⟩ = some (.int .i64 a0_4) := (blk_cell BK252.out 4).trans rfl
                  have hcz28_5 : wc.cell? ⟨gb252, 5, none⟩ = some (.slice A0_5 l0_5.length c0_5) := (blk_cell BK252.out 5).trans rfl
                  have hfz28_0 := blk_frozen BK252.out 0
                  have hfz28_1 := blk_frozen BK252.out 1
                  have hfz28_2 := blk_frozen BK252.out 2
                  have hfz28_3 := blk_frozen BK252.out 3
                  have hfz28_4 := blk_frozen BK252.out 4
                  have hfz28_5 := blk_frozen BK252.out 5
                  have hcz29_0 : wc.cell? ⟨gb253, 0, none⟩ = some (.int .i64 a1_0) := (blk_cell BK253.out 0).trans rfl
                  have hcz29_1 : wc.cell? ⟨gb253, 1, none⟩ = some (.bool a1_1) := (blk_cell BK253.out 1).trans rfl
                  have hcz29_2 : wc.cell? ⟨gb253, 2, none⟩ = some (.slice A1_2 l1_2.length c1_2) := (blk_cell BK253.out 2).trans rfl
                  have hcz29_3 : wc.cell? ⟨gb253, 3, none⟩ = some (.string a1_3) := (blk_cell BK253.out 3).trans rfl
                  have hcz29_4 : wc.cell? ⟨gb253, 4, none⟩ = some (.int .i64 a1_4) := (blk_cell BK253.out 4).trans rfl
                  have hcz29_5 : wc.cell? ⟨gb253, 5, none⟩ = some (.slice A1_5 l1_5.length c1_5) := (blk_cell BK253.out 5).trans rfl
                  have hfz29_0 := blk_frozen BK253.out 0
                  have hfz29_1 := blk_frozen BK253.out 1
                  have hfz29_2 := blk_frozen BK253.out 2
                  have hfz29_3 := blk_frozen BK253.out 3
                  have hfz29_4 := blk_frozen BK253.out 4
                  have hfz29_5 := blk_frozen BK253.out 5
                  go_wp2
                  go_ret
                  exact ⟨by first | rfl | (simp [errW_none, errW_some] <;> rfl) | (simp [*, errW_none, errW_some] <;> rfl), by repeat (first | (with_reducible first | exact HB.out | apply below_alloc | apply pw_below_drewN | apply below_drew1 | refine below_set ?_ GE252.out | refine below_set ?_ GE253.out) | exact HB.out)⟩
              · rw [if_neg c22] at H
                have c22b0 : (a0_0 == 8) = false := beq_eq_false_iff_ne.mpr c22
                have c22b1 : (a0_0 != 8) = true := bne_iff_ne.mpr c22
                by_cases c30 : a0_0 = 9
                · rw [if_pos c30] at H
                  have c30b0 : (a0_0 == 9) = true := beq_iff_eq.mpr c30
                  have c30b1 : (a0_0 != 9) = false := bne_eq_false_iff_eq.mpr c30
                  clear c30
                  obtain rfl := Option.some.inj H
                  have hnb31 := NB252_253.out
                  have hnc31 := NB253_252.out
                  have hcz32_0 : wc.cell? ⟨gb252, 0, none⟩ = some (.int .i64 a0_0) := (blk_cell BK252.out 0).trans rfl
                  have hcz32_1 : wc.cell? ⟨gb252, 1, none⟩ = some (.bool a0_1) := (blk_cell BK252.out 1).trans rfl
                  have hcz32_2 : wc.cell? ⟨gb252, 2, none⟩ = some (.slice A0_2 l0_2.length c0_2) := (blk_cell BK252.out 2).trans rfl
                  have hcz32_3 : wc.cell? ⟨gb252, 3, none⟩ = some (.string a0_3) := (blk_cell BK252.out 3).trans rfl
                  have hcz32_4 : wc.cell? ⟨gb252, 4, none⟩ = some (.int .i64 a0_4) := (blk_cell BK252.out 4).trans rfl
                  have hcz32_5 : wc.cell? ⟨gb252, 5, none⟩ = some (.slice A0_5 l0_5.length c0_5) := (blk_cell BK252.out 5).trans rfl
                  have hfz32_0 := blk_frozen BK252.out 0
                  have hfz32_1 := blk_frozen BK252.out 1
                  have hfz32_2 := blk_frozen BK252.out 2
                  have hfz32_3 := blk_frozen BK252.out 3
                  have hfz32_4 := blk_frozen BK252.out 4
                  have hfz32_5 := blk_frozen BK252.out 5
                  have hcz33_0 : wc.cell? ⟨gb253, 0, none⟩ = some (.int .i64 a1_0) := (blk_cell BK253.out 0).trans rfl
                  have hcz33_1 : wc.cell? ⟨gb253, 1, none⟩ = some (.bool a1_1) := (blk_cell BK253.out 1).trans rfl
                  have hcz33_2 : wc.cell? ⟨gb253, 2, none⟩ = some (.slice A1_2 l1_2.length c1_2) := (blk_cell BK253.out 2).trans rfl
                  have hcz33_3 : wc.cell? ⟨gb253, 3, none⟩ = some (.string a1_3) := (blk_cell BK253.out 3).trans rfl
                  have hcz33_4 : wc.cell? ⟨gb253, 4, none⟩ = some (.int .i64 a1_4) := (blk_cell BK253.out 4).trans rfl
                  have hcz33_5 : wc.cell? ⟨gb253, 5, none⟩ = some (.slice A1_5 l1_5.length c1_5) := (blk_cell BK253.out 5).trans rfl
                  have hfz33_0 := blk_frozen BK253.out 0
                  have hfz33_1 := blk_frozen BK253.out 1
                  have hfz33_2 := blk_frozen BK253.out 2
                  have hfz33_3 := blk_frozen BK253.out 3
                  have hfz33_4 := blk_frozen BK253.out 4
                  have hfz33_5 := blk_frozen BK253.out 5
                  go_wp2
                  go_ret
                  exact ⟨by first | rfl | (simp [errW_none, errW_some] <;> rfl) | (simp [*, errW_none, errW_some] <;> rfl), by repeat (first | (with_reducible first | exact HB.out | apply below_alloc | apply pw_below_drewN | apply below_drew1 | refine below_set ?_ GE252.out | refine below_set ?_ GE253.out) | exact HB.out)⟩
                · rw [if_neg c30] at H
                  have c30b0 : (a0_0 == 9) = false := beq_eq_false_iff_ne.mpr c30
                  have c30b1 : (a0_0 != 9) = true := bne_iff_ne.mpr c30
                  by_cases c34 : a0_0 = 7
                  · rw [if_pos c34] at H
                    have c34b0 : (a0_0 == 7) = true := beq_iff_eq.mpr c34
                    have c34b1 : (a0_0 != 7) = false := bne_eq_false_iff_eq.mpr c34
                    clear c34
                    have H' := Aside0.mk H
                    clear H
                    have hnb35 := NB252_253.out
                    have hnc35 := NB253_252.out
                    have hcz36_0 : wc.cell? ⟨gb252, 0, none⟩ = some (.int .i64 a0_0) := (blk_cell BK252.out 0).trans rfl
                    have hcz36_1 : wc.cell? ⟨gb252, 1, none⟩ = some (.bool a0_1) := (blk_cell BK252.out 1).trans rfl
                    have hcz36_2 : wc.cell? ⟨gb252, 2, none⟩ = some (.slice A0_2 l0_2.length c0_2) := (blk_cell BK252.out 2).trans rfl
                    have hcz36_3 : wc.cell? ⟨gb252, 3, none⟩ = some (.string a0_3) := (blk_cell BK252.out 3).trans rfl
                    have hcz36_4 : wc.cell? ⟨gb252, 4, none⟩ = some (.int .i64 a0_4) := (blk_cell BK252.out 4).trans rfl
                    have hcz36_5 : wc.cell? ⟨gb252, 5, none⟩ = some (.slice A0_5 l0_5.length c0_5) := (blk_cell BK252.out 5).trans rfl
                    have hfz36_0 := blk_frozen BK252.out 0
                    have hfz36_1 := blk_frozen BK252.out 1
                    have hfz36_2 := blk_frozen BK252.out 2
                    have hfz36_3 := blk_frozen BK252.out 3
                    have hfz36_4 := blk_frozen BK252.out 4
                    have hfz36_5 := blk_frozen BK252.out 5
                    have hcz37_0 : wc.cell? ⟨gb253, 0, none⟩ = some (.int .i64 a1_0) := (blk_cell BK253.out 0).trans rfl
                    have hcz37_1 : wc.cell? ⟨gb253, 1, none⟩ = some (.bool a1_1) := (blk_cell BK253.out 1).trans rfl
                    have hcz37_2 : wc.cell? ⟨gb253, 2, none⟩ = some (.slice A1_2 l1_2.length c1_2) := (blk_cell BK253.out 2).trans rfl
                    have hcz37_3 : wc.cell? ⟨gb253, 3, none⟩ = some (.string a1_3) := (blk_cell BK253.out 3).trans rfl
                    have hcz37_4 : wc.cell? ⟨gb253, 4, none⟩ = some (.int .i64 a1_4) := (blk_cell BK253.out 4).trans rfl
                    have hcz37_5 : wc.cell? ⟨gb253, 5, none⟩ = some (.slice A1_5 l1_5.length c1_5) := (blk_cell BK253.out 5).trans rfl
                    have hfz37_0 := blk_frozen BK253.out 0
                    have hfz37_1 := blk_frozen BK253.out 1
                    have hfz37_2 := blk_frozen BK253.out 2
                    have hfz37_3 := blk_frozen BK253.out 3
                    have hfz37_4 := blk_frozen BK253.out 4
                    have hfz37_5 := blk_frozen BK253.out 5
                    go_wp2
                    go_meet
                    case rel => exact ⟨_, ((a0_4 == a1_4)), (by first | rfl | (simp; done) | (simp [*]; done)), H', ⟨by have := HJ15.out; first | omega | exact Nat.le_refl _⟩, ⟨by (with_reducible repeat (first | refine blk_drewN ?_ _ | refine blk_drew ?_ | refine blk_alloc ?_ _)); exact BK252.out⟩, ⟨by (with_reducible repeat (first | refine blk_drewN ?_ _ | refine blk_drew ?_ | refine blk_alloc ?_ _)); exact BK253.out⟩, ⟨by repeat (first | (with_reducible first | exact HB.out | apply below_alloc | apply pw_below_drewN | apply below_drew1 | refine below_set ?_ GE252.out | refine below_set ?_ GE253.out) | exact HB.out)⟩⟩
                  · rw [if_neg c34] at H
                    have c34b0 : (a0_0 == 7) = false := beq_eq_false_iff_ne.mpr c34
                    have c34b1 : (a0_0 != 7) = true := bne_iff_ne.mpr c34
                    by_cases c38 : a0_0 = 4
                    · rw [if_pos c38] at H
                      have c38b0 : (a0_0 == 4) = true := beq_iff_eq.mpr c38
                      have c38b1 : (a0_0 != 4) = false := bne_eq_false_iff_eq.mpr c38
                      clear c38
                      have H' := Aside0.mk H
                      clear H
                      go_wp2
                      go_meet
                      case rel => exact ⟨_, (true), (by first | rfl | (simp; done) | (simp [*]; done)), H', ⟨by have := HJ15.out; first | omega | exact Nat.le_refl _⟩, ⟨by (with_reducible repeat (first | refine blk_drewN ?_ _ | refine blk_drew ?_ | refine blk_alloc ?_ _)); exact BK252.out⟩, ⟨by (with_reducible repeat (first | refine blk_drewN ?_ _ | refine blk_drew ?_ | refine blk_alloc ?_ _)); exact BK253.out⟩, ⟨by repeat (first | (with_reducible first | exact HB.out | apply below_alloc | apply pw_below_drewN | apply below_drew1 | refine below_set ?_ GE252.out | refine below_set ?_ GE253.out) | exact HB.out)⟩⟩
                    · rw [if_neg c38] at H
                      have c38b0 : (a0_0 == 4) = false := beq_eq_false_iff_ne.mpr c38
                      have c38b1 : (a0_0 != 4) = true := bne_iff_ne.mpr c38
                      by_cases c39 : a0_0 = 5
                      · rw [if_pos c39] at H
                        have c39b0 : (a0_0 == 5) = true := beq_iff_eq.mpr c39
                        have c39b1 : (a0_0 != 5) = false := bne_eq_false_iff_eq.mpr c39
                        clear c39
                        have H' := Aside0.mk H
                        clear H
                        go_wp2
                        go_meet
                        case rel => exact ⟨_, (true), (by first | rfl | (simp; done) | (simp [*]; done)), H', ⟨by have := HJ15.out; first | omega | exact Nat.le_refl _⟩, ⟨by (with_reducible repeat (first | refine blk_drewN ?_ _ | refine blk_drew ?_ | refine blk_alloc ?_ _)); exact BK252.out⟩, ⟨by (with_reducible repeat (first | refine blk_drewN ?_ _ | refine blk_drew ?_ | refine blk_alloc ?_ _)); exact BK253.out⟩, ⟨by repeat (first | (with_reducible first | exact HB.out | apply below_alloc | apply pw_below_drewN | apply below_drew1 | refine below_set ?_ GE252.out | refine below_set ?_ GE253.out) | exact HB.out)⟩⟩
                      · rw [if_neg c39] at H
                        have c39b0 : (a0_0 == 5) = false := beq_eq_false_iff_ne.mpr c39
                        have c39b1 : (a0_0 != 5) = true := bne_iff_ne.mpr c39
                        obtain rfl := Option.some.inj H
                        go_wp2
                        go_ret
                        exact ⟨by first | rfl | (simp [errW_none, errW_some] <;> rfl) | (simp [*, errW_none, errW_some] <;> rfl), by repeat (first | (with_reducible first | exact HB.out | apply below_alloc | apply pw_below_drewN | apply below_drew1 | refine below_set ?_ GE252.out | refine below_set ?_ GE253.out) | exact HB.out)⟩
    case rest =>
      clear HC4
      try clear c1
      try clear c2
      try clear p2
      try clear c3
      try clear c3b0
      try clear c3b1
      try clear c4
      try clear c7
      try clear c10
      try clear c10b0
      try clear c10b1
      try clear c12
      try clear c17
      try clear c17b0
      try clear c17b1
      try clear c18
      try clear c19
      try clear c22
      try clear c22b0
      try clear c22b1
      try clear c23
      try clear c23b0
      try clear c23b1
      try clear c24
      try clear c27
      try clear c30
      try clear c30b0
      try clear c30b1
      try clear c31
      try clear c34
      try clear c34b0
      try clear c34b1
      try clear c35
      try clear c38
      try clear c38b0
      try clear c38b1
      try clear c39
      try clear c39b0
      try clear c39b1
      try clear hcz13_0
      try clear hcz13_1
      try clear hcz13_2
      try clear hcz13_3
      try clear hcz13_4
      try clear hcz13_5
      try clear hcz14_0
      try clear hcz14_1
      try clear hcz14_2
      try clear hcz14_3
      try clear hcz14_4
      try clear hcz14_5
      try clear hcz20_0
      try clear hcz20_1
      try clear hcz20_2
      try clear hcz20_3
      try clear hcz20_4
      try clear hcz20_5
      try clear hcz21_0
      try clear hcz21_1
      try clear hcz21_2
      try clear hcz21_3
      try clear hcz21_4
      try clear hcz21_5
      try clear hcz25_0
      try clear hcz25_1
      try clear hcz25_2
      try clear hcz25_3
      try clear hcz25_4
      try clear hcz25_5
      try clear hcz26_0
      try clear hcz26_1
      try clear hcz26_2
      try clear hcz26_3
      try clear hcz26_4
      try clear hcz26_5
      try clear hcz28_0
      try clear hcz28_1
      try clear hcz28_2
      try clear hcz28_3
      try clear hcz28_4
      try clear hcz28_5
      try clear hcz29_0
      try clear hcz29_1
      try clear hcz29_2
      try clear hcz29_3
      try clear hcz29_4
      try clear hcz29_5
      try clear hcz32_0
      try clear hcz32_1
      try clear hcz32_2
      try clear hcz32_3
      try clear hcz32_4
      try clear hcz32_5
      try clear hcz33_0
      try clear hcz33_1
      try clear hcz33_2
      try clear hcz33_3
      try clear hcz33_4
      try clear hcz33_5
      try clear hcz36_0
      try clear hcz36_1
      try clear hcz36_2
      try clear hcz36_3
      try clear hcz36_4
      try clear hcz36_5
      try clear hcz37_0
      try clear hcz37_1
      try clear hcz37_2
      try clear hcz37_3
      try clear hcz37_4
      try clear hcz37_5
      try clear hcz8_0
      try clear hcz8_1
      try clear hcz8_2
      try clear hcz8_3
      try clear hcz8_4
      try clear hcz8_5
      try clear hcz9_0
      try clear hcz9_1
      try clear hcz9_2
      try clear hcz9_3
      try clear hcz9_4
      try clear hcz9_5
      try clear hfz13_0
      try clear hfz13_1
      try clear hfz13_2
      try clear hfz13_3
      try clear hfz13_4
      try clear hfz13_5
      try clear hfz14_0
      try clear hfz14_1
      try clear hfz14_2
      try clear hfz14_3
      try clear hfz14_4
      try clear hfz14_5
      try clear hfz20_0
      try clear hfz20_1
      try clear hfz20_2
      try clear hfz20_3
      try clear hfz20_4
      try clear hfz20_5
      try clear hfz21_0
      try clear hfz21_1
      try clear hfz21_2
      try clear hfz21_3
      try clear hfz21_4
      try clear hfz21_5
      try clear hfz25_0
      try clear hfz25_1
      try clear hfz25_2
      try clear hfz25_3
      try clear hfz25_4
      try clear hfz25_5
      try clear hfz26_0
      try clear hfz26_1
      try clear hfz26_2
      try clear hfz26_3
      try clear hfz26_4
      try clear hfz26_5
      try clear hfz28_0
      try clear hfz28_1
      try clear hfz28_2
      try clear hfz28_3
      try clear hfz28_4
      try clear hfz28_5
      try clear hfz29_0
      try clear hfz29_1
      try clear hfz29_2
      try clear hfz29_3
      try clear hfz29_4
      try clear hfz29_5
      try clear hfz32_0
      try clear hfz32_1
      try clear hfz32_2
      try clear hfz32_3
      try clear hfz32_4
      try clear hfz32_5
      try clear hfz33_0
      try clear hfz33_1
      try clear hfz33_2
      try clear hfz33_3
      try clear hfz33_4
      try clear hfz33_5
      try clear hfz36_0
      try clear hfz36_1
      try clear hfz36_2
      try clear hfz36_3
      try clear hfz36_4
      try clear hfz36_5
      try clear hfz37_0
      try clear hfz37_1
      try clear hfz37_2
      try clear hfz37_3
      try clear hfz37_4
      try clear hfz37_5
      try clear hfz8_0
      try clear hfz8_1
      try clear hfz8_2
      try clear hfz8_3
      try clear hfz8_4
      try clear hfz8_5
      try clear hfz9_0
      try clear hfz9_1
      try clear hfz9_2
      try clear hfz9_3
      try clear hfz9_4
      try clear hfz9_5
      try clear p2
      obtain ⟨kq, x5_3, rfl, HA, HJ3, BK252, BK253, HB⟩ := hcut
      cases kq with
      | zero => exact absurd HA.out (by simp [relictref03_Same.j1])
      | succ kj3 =>
        have H := HA.out
        clear HA
        simp only [relictref03_Same.j1] at H
        have HC40 := Aside0.mk H
        clear H
        go_upto_region 20 with (fail)
        go_cut [70] (fun v70 wc => ∃ (kq : Nat) (x70_39 : Bool), v70 = .bool x70_39 ∧ Aside0 (relictref03_Same.j2 kq x70_39 a0_0 a0_1 l0_2 a0_3 a0_4 l0_5 a1_0 a1_1 l1_2 a1_3 a1_4 l1_5 = some r) ∧ Aside0 (kq ≤ kj3) ∧ Aside0 (wc.heap[gb252]? = some (.cells #[.int .i64 a0_0, .bool a0_1, (.slice A0_2 l0_2.length c0_2), .string a0_3, .int .i64 a0_4, (.slice A0_5 l0_5.length c0_5)] 43 (0, 0))) ∧ Aside0 (wc.heap[gb253]? = some (.cells #[.int .i64 a1_0, .bool a1_1, (.slice A1_2 l1_2.length c1_2), .string a1_3, .int .i64 a1_4, (.slice A1_5 l1_5.length c1_5)] 43 (0, 0))) ∧ Aside0 (Below w.heap.size w wc))
        case first =>
          have H := HC40.out
          clear HC40
          by_cases c41 : x5_3 = true
          · subst c41
            have H1 : (relictref03_Same.j2 kj3 ((l0_5.length : Int) != (l1_5.length : Int)) a0_0 a0_1 l0_2 a0_3 a0_4 l0_5 a1_0 a1_1 l1_2 a1_3 a1_4 l1_5) = some r := by rw [if_pos rfl] at H; exact H
            clear H
            have H := H1
            clear H1
            have H' := Aside0.mk H
            clear H
            have hnb42 := NB252_253.out
            have hnc42 := NB253_252.out
            have hcz43_0 : wc.cell? ⟨gb252, 0, none⟩ = some (.int .i64 a0_0) := (blk_cell BK252.out 0).trans rfl
            have hcz43_1 : wc.cell? ⟨gb252, 1, none⟩ = some (.bool a0_1) := (blk_cell BK252.out 1).trans rfl
            have hcz43_2 : wc.cell? ⟨gb252, 2, none⟩ = some (.slice A0_2 l0_2.length c0_2) := (blk_cell BK252.out 2).trans rfl
            have hcz43_3 : wc.cell? ⟨gb252, 3, none⟩ = some (.string a0_3) := (blk_cell BK252.out 3).trans rfl
            have hcz43_4 : wc.cell? ⟨gb252, 4, none⟩ = some (.int .i64 a0_4) := (blk_cell BK252.out 4).trans rfl
            have hcz43_5 : wc.cell? ⟨gb252, 5, none⟩ = some (.slice A0_5 l0_5.length c0_5) := (blk_cell BK252.out 5).trans rfl
            have hfz43_0 := blk_frozen BK252.out 0
            have hfz43_1 := blk_frozen BK252.out 1
            have hfz43_2 := blk_frozen BK252.out 2
            have hfz43_3 := blk_frozen BK252.out 3
            have hfz43_4 := blk_frozen BK252.out 4
            have hfz43_5 := blk_frozen BK252.out 5
            have hcz44_0 : wc.cell? ⟨gb253, 0, none⟩ = some (.int .i64 a1_0) := (blk_cell BK253.out 0).trans rfl
            have hcz44_1 : wc.cell? ⟨gb253, 1, none⟩ = some (.bool a1_1) := (blk_cell BK253.out 1).trans rfl
            have hcz44_2 : wc.cell? ⟨gb253, 2, none⟩ = some (.slice A1_2 l1_2.length c1_2) := (blk_cell BK253.out 2).trans rfl
            have hcz44_3 : wc.cell? ⟨gb253, 3, none⟩ = some (.string a1_3) := (blk_cell BK253.out 3).trans rfl
            have hcz44_4 : wc.cell? ⟨gb253, 4, none⟩ = some (.int .i64 a1_4) := (blk_cell BK253.out 4).trans rfl
            have hcz44_5 : wc.cell? ⟨gb253, 5, none⟩ = some (.slice A1_5 l1_5.length c1_5) := (blk_cell BK253.out 5).trans rfl
            have hfz44_0 := blk_frozen BK253.out 0
            have hfz44_1 := blk_frozen BK253.out 1
            have hfz44_2 := blk_frozen BK253.out 2
            have hfz44_3 := blk_frozen BK253.out 3
            have hfz44_4 := blk_frozen BK253.out 4
            have hfz44_5 := blk_frozen BK253.out 5
            go_wp2
            go_meet
            case rel => exact ⟨_, (((l0_5.length : Int) != (l1_5.length : Int))), (by first | rfl | (simp; done) | (simp [*]; done)), H', ⟨by have := HJ3.out; first | omega | exact Nat.le_refl _⟩, ⟨by (with_reducible repeat (first | refine blk_drewN ?_ _ | refine blk_drew ?_ | refine blk_alloc ?_ _)); exact BK252.out⟩, ⟨by (with_reducible repeat (first | refine blk_drewN ?_ _ | refine blk_drew ?_ | refine blk_alloc ?_ _)); exact BK253.out⟩, ⟨by repeat (first | (with_reducible first | exact HB.out | apply below_alloc | apply pw_below_drewN | apply below_drew1 | refine below_set ?_ GE252.out | refine below_set ?_ GE253.out) | exact HB.out)⟩⟩
          · replace c41 := Bool.eq_false_iff.mpr c41
            subst c41
            have H1 : (relictref03_Same.j2 kj3 true a0_0 a0_1 l0_2 a0_3 a0_4 l0_5 a1_0 a1_1 l1_2 a1_3 a1_4 l1_5) = some r := by rw [if_neg (show ¬ (false = true) by decide)] at H; exact H
            clear H
            have H := H1
            clear H1
            have H' := Aside0.mk H
            clear H
            go_wp2
            go_meet
            case rel => exact ⟨_, (true), (by first | rfl | (simp; done) | (simp [*]; done)), H', ⟨by have := HJ3.out; first | omega | exact Nat.le_refl _⟩, ⟨by (with_reducible repeat (first | refine blk_drewN ?_ _ | refine blk_drew ?_ | refine blk_alloc ?_ _)); exact BK252.out⟩, ⟨by (with_reducible repeat (first | refine blk_drewN ?_ _ | refine blk_drew ?_ | refine blk_alloc ?_ _)); exact BK253.out⟩, ⟨by repeat (first | (with_reducible first | exact HB.out | apply below_alloc | apply pw_below_drewN | apply below_drew1 | refine below_set ?_ GE252.out | refine below_set ?_ GE253.out) | exact HB.out)⟩⟩
        case rest =>
          clear HC40
          try clear c1
          try clear c2
          try clear p2
          try clear c3
          try clear c3b0
          try clear c3b1
          try clear c4
          try clear c7
          try clear c10
          try clear c10b0
          try clear c10b1
          try clear c12
          try clear c17
          try clear c17b0
          try clear c17b1
          try clear c18
          try clear c19
          try clear c22
          try clear c22b0
          try clear c22b1
          try clear c23
          try clear c23b0
          try clear c23b1
          try clear c24
          try clear c27
          try clear c30
          try clear c30b0
          try clear c30b1
          try clear c31
          try clear c34
          try clear c34b0
          try clear c34b1
          try clear c35
          try clear c38
          try clear c38b0
          try clear c38b1
          try clear c39
          try clear c39b0
          try clear c39b1
          try clear c41
          try clear c42
          try clear hcz13_0
          try clear hcz13_1
          try clear hcz13_2
          try clear hcz13_3
          try clear hcz13_4
          try clear hcz13_5
          try clear hcz14_0
          try clear hcz14_1
          try clear hcz14_2
          try clear hcz14_3
          try clear hcz14_4
          try clear hcz14_5
          try clear hcz20_0
          try clear hcz20_1
          try clear hcz20_2
          try clear hcz20_3
          try clear hcz20_4
          try clear hcz20_5
          try clear hcz21_0
          try clear hcz21_1
          try clear hcz21_2
          try clear hcz21_3
          try clear hcz21_4
          try clear hcz21_5
          try clear hcz25_0
          try clear hcz25_1
          try clear hcz25_2
          try clear hcz25_3
          try clear hcz25_4
          try clear hcz25_5
          try clear hcz26_0
          try clear hcz26_1
          try clear hcz26_2
          try clear hcz26_3
          try clear hcz26_4
          try clear hcz26_5
          try clear hcz28_0
          try clear hcz28_1
          try clear hcz28_2
          try clear hcz28_3
          try clear hcz28_4
          try clear hcz28_5
          try clear hcz29_0
          try clear hcz29_1
          try clear hcz29_2
          try clear hcz29_3
          try clear hcz29_4
          try clear hcz29_5
          try clear hcz32_0
          try clear hcz32_1
          try clear hcz32_2
          try clear hcz32_3
          try clear hcz32_4
          try clear hcz32_5
          try clear hcz33_0
          try clear hcz33_1
          try clear hcz33_2
          try clear hcz33_3
          try clear hcz33_4
          try clear hcz33_5
          try clear hcz36_0
          try clear hcz36_1
          try clear hcz36_2
          try clear hcz36_3
          try clear hcz36_4
          try clear hcz36_5
          try clear hcz37_0
          try clear hcz37_1
          try clear hcz37_2
          try clear hcz37_3
          try clear hcz37_4
          try clear hcz37_5
          try clear hcz43_0
          try clear hcz43_1
          try clear hcz43_2
          try clear hcz43_3
          try clear hcz43_4
          try clear hcz43_5
          try clear hcz44_0
          try clear hcz44_1
          try clear hcz44_2
          try clear hcz44_3
          try clear hcz44_4
          try clear hcz44_5
          try clear hcz8_0
          try clear hcz8_1
          try clear hcz8_2
          try clear hcz8_3
          try clear hcz8_4
          try clear hcz8_5
          try clear hcz9_0
          try clear hcz9_1
          try clear hcz9_2
          try clear hcz9_3
          try clear hcz9_4
          try clear hcz9_5
          try clear hfz13_0
          try clear hfz13_1
          try clear hfz13_2
          try clear hfz13_3
          try clear hfz13_4
          try clear hfz13_5
          try clear hfz14_0
          try clear hfz14_1
          try clear hfz14_2
          try clear hfz14_3
          try clear hfz14_4
          try clear hfz14_5
          try clear hfz20_0
          try clear hfz20_1
          try clear hfz20_2
          try clear hfz20_3
          try clear hfz20_4
          try clear hfz20_5
          try clear hfz21_0
          try clear hfz21_1
          try clear hfz21_2
          try clear hfz21_3
          try clear hfz21_4
          try clear hfz21_5
          try clear hfz25_0
          try clear hfz25_1
          try clear hfz25_2
          try clear hfz25_3
          try clear hfz25_4
          try clear hfz25_5
          try clear hfz26_0
          try clear hfz26_1
          try clear hfz26_2
          try clear hfz26_3
          try clear hfz26_4
          try clear hfz26_5
          try clear hfz28_0
          try clear hfz28_1
          try clear hfz28_2
          try clear hfz28_3
          try clear hfz28_4
          try clear hfz28_5
          try clear hfz29_0
          try clear hfz29_1
          try clear hfz29_2
          try clear hfz29_3
          try clear hfz29_4
          try clear hfz29_5
          try clear hfz32_0
          try clear hfz32_1
          try clear hfz32_2
          try clear hfz32_3
          try clear hfz32_4
          try clear hfz32_5
          try clear hfz33_0
          try clear hfz33_1
          try clear hfz33_2
          try clear hfz33_3
          try clear hfz33_4
          try clear hfz33_5
          try clear hfz36_0
          try clear hfz36_1
          try clear hfz36_2
          try clear hfz36_3
          try clear hfz36_4
          try clear hfz36_5
          try clear hfz37_0
          try clear hfz37_1
          try clear hfz37_2
          try clear hfz37_3
          try clear hfz37_4
          try clear hfz37_5
          try clear hfz43_0
          try clear hfz43_1
          try clear hfz43_2
          try clear hfz43_3
          try clear hfz43_4
          try clear hfz43_5
          try clear hfz44_0
          try clear hfz44_1
          try clear hfz44_2
          try clear hfz44_3
          try clear hfz44_4
          try clear hfz44_5
          try clear hfz8_0
          try clear hfz8_1
          try clear hfz8_2
          try clear hfz8_3
          try clear hfz8_4
          try clear hfz8_5
          try clear hfz9_0
          try clear hfz9_1
          try clear hfz9_2
          try clear hfz9_3
          try clear hfz9_4
          try clear hfz9_5
          try clear p2
          obtain ⟨kq, x70_39, rfl, HA, HJ39, BK252, BK253, HB⟩ := hcut
          cases kq with
          | zero => exact absurd HA.out (by simp [relictref03_Same.j2])
          | succ kj39 =>
            have H := HA.out
            clear HA
            simp only [relictref03_Same.j2] at H
            by_cases c45 : x70_39 = true
            · subst c45
              have H1 : (some false) = some r := by rw [if_pos rfl] at H; exact H
              clear H
              have H := H1
              clear H1
              obtain rfl := Option.some.inj H
              go_wp2
              go_ret
              exact ⟨by first | rfl | (simp [errW_none, errW_some] <;> rfl) | (simp [*, errW_none, errW_some] <;> rfl), by repeat (first | (with_reducible first | exact HB.out | apply below_alloc | apply pw_below_drewN | apply below_drew1 | refine below_set ?_ GE252.out | refine below_set ?_ GE253.out) | exact HB.out)⟩
            · replace c45 := Bool.eq_false_iff.mpr c45
              subst c45
              have H1 : (relictref03_Same.l0 kj39 0 a0_0 a0_1 l0_2 a0_3 a0_4 l0_5 a1_0 a1_1 l1_2 a1_3 a1_4 l1_5) = some r := by rw [if_neg (show ¬ (false = true) by decide)] at H; exact H
              clear H
              have H := H1
              clear H1
              have H' := Aside0.mk H
              clear H
              go_wp2
              go_loopg [6] kj39 (fun kq v6 w' => ∃ (x6_3 : Int), v6 = .int .i64 x6_3 ∧ Aside0 (relictref03_Same.l0 kq x6_3 a0_0 a0_1 l0_2 a0_3 a0_4 l0_5 a1_0 a1_1 l1_2 a1_3 a1_4 l1_5 = some r) ∧ Aside0 (kq ≤ kj39) ∧ Aside0 (w'.heap[gb252]? = some (.cells #[.int .i64 a0_0, .bool a0_1, (.slice A0_2 l0_2.length c0_2), .string a0_3, .int .i64 a0_4, (.slice A0_5 l0_5.length c0_5)] 43 (0, 0))) ∧ Aside0 (w'.heap[gb253]? = some (.cells #[.int .i64 a1_0, .bool a1_1, (.slice A1_2 l1_2.length c1_2), .string a1_3, .int .i64 a1_4, (.slice A1_5 l1_5.length c1_5)] 43 (0, 0))) ∧ Aside0 (Below w.heap.size w w'))
              case atStart => exact ⟨(0), (by first | rfl | (simp; done) | (simp [*]; done)), H', ⟨Nat.le_refl _⟩, ⟨by (with_reducible repeat (first | refine blk_drewN ?_ _ | refine blk_drew ?_ | refine blk_alloc ?_ _)); exact BK252.out⟩, ⟨by (with_reducible repeat (first | refine blk_drewN ?_ _ | refine blk_drew ?_ | refine blk_alloc ?_ _)); exact BK253.out⟩, ⟨by repeat (first | (with_reducible first | exact HB.out | apply below_alloc | apply pw_below_drewN | apply below_drew1 | refine below_set ?_ GE252.out | refine below_set ?_ GE253.out) | exact HB.out)⟩⟩
              case round =>
                clear H'
                try clear c1
                try clear c2
                try clear p2
                try clear c3
                try clear c3b0
                try clear c3b1
                try clear c4
                try clear c7
                try clear c10
                try clear c10b0
                try clear c10b1
                try clear c12
                try clear c17
                try clear c17b0
                try clear c17b1
                try clear c18
                try clear c19
                try clear c22
                try clear c22b0
                try clear c22b1
                try clear c23
                try clear c23b0
                try clear c23b1
                try clear c24
                try clear c27
                try clear c30
                try clear c30b0
                try clear c30b1
                try clear c31
                try clear c34
                try clear c34b0
                try clear c34b1
                try clear c35
                try clear c38
                try clear c38b0
                try clear c38b1
                try clear c39
                try clear c39b0
                try clear c39b1
                try clear c41
                try clear c42
                try clear c45
                try clear hcz13_0
                try clear hcz13_1
                try clear hcz13_2
                try clear hcz13_3
                try clear hcz13_4
                try clear hcz13_5
                try clear hcz14_0
                try clear hcz14_1
                try clear hcz14_2
                try clear hcz14_3
                try clear hcz14_4
                try clear hcz14_5
                try clear hcz20_0
                try clear hcz20_1
                try clear hcz20_2
                try clear hcz20_3
                try clear hcz20_4
                try clear hcz20_5
                try clear hcz21_0
                try clear hcz21_1
                try clear hcz21_2
                try clear hcz21_3
                try clear hcz21_4
                try clear hcz21_5
                try clear hcz25_0
                try clear hcz25_1
                try clear hcz25_2
                try clear hcz25_3
                try clear hcz25_4
                try clear hcz25_5
                try clear hcz26_0
                try clear hcz26_1
                try clear hcz26_2
                try clear hcz26_3
                try clear hcz26_4
                try clear hcz26_5
                try clear hcz28_0
                try clear hcz28_1
                try clear hcz28_2
                try clear hcz28_3
                try clear hcz28_4
                try clear hcz28_5
                try clear hcz29_0
                try clear hcz29_1
                try clear hcz29_2
                try clear hcz29_3
                try clear hcz29_4
                try clear hcz29_5
                try clear hcz32_0
                try clear hcz32_1
                try clear hcz32_2
                try clear hcz32_3
                try clear hcz32_4
                try clear hcz32_5
                try clear hcz33_0
                try clear hcz33_1
                try clear hcz33_2
                try clear hcz33_3
                try clear hcz33_4
                try clear hcz33_5
                try clear hcz36_0
                try clear hcz36_1
                try clear hcz36_2
                try clear hcz36_3
                try clear hcz36_4
                try clear hcz36_5
                try clear hcz37_0
                try clear hcz37_1
                try clear hcz37_2
                try clear hcz37_3
                try clear hcz37_4
                try clear hcz37_5
                try clear hcz43_0
                try clear hcz43_1
                try clear hcz43_2
                try clear hcz43_3
                try clear hcz43_4
                try clear hcz43_5
                try clear hcz44_0
                try clear hcz44_1
                try clear hcz44_2
                try clear hcz44_3
                try clear hcz44_4
                try clear hcz44_5
                try clear hcz8_0
                try clear hcz8_1
                try clear hcz8_2
                try clear hcz8_3
                try clear hcz8_4
                try clear hcz8_5
                try clear hcz9_0
                try clear hcz9_1
                try clear hcz9_2
                try clear hcz9_3
                try clear hcz9_4
                try clear hcz9_5
                try clear hfz13_0
                try clear hfz13_1
                try clear hfz13_2
                try clear hfz13_3
                try clear hfz13_4
                try clear hfz13_5
                try clear hfz14_0
                try clear hfz14_1
                try clear hfz14_2
                try clear hfz14_3
                try clear hfz14_4
                try clear hfz14_5
                try clear hfz20_0
                try clear hfz20_1
                try clear hfz20_2
                try clear hfz20_3
                try clear hfz20_4
                try clear hfz20_5
                try clear hfz21_0
                try clear hfz21_1
                try clear hfz21_2
                try clear hfz21_3
                try clear hfz21_4
                try clear hfz21_5
                try clear hfz25_0
                try clear hfz25_1
                try clear hfz25_2
                try clear hfz25_3
                try clear hfz25_4
                try clear hfz25_5
                try clear hfz26_0
                try clear hfz26_1
                try clear hfz26_2
                try clear hfz26_3
                try clear hfz26_4
                try clear hfz26_5
                try clear hfz28_0
                try clear hfz28_1
                try clear hfz28_2
                try clear hfz28_3
                try clear hfz28_4
                try clear hfz28_5
                try clear hfz29_0
                try clear hfz29_1
                try clear hfz29_2
                try clear hfz29_3
                try clear hfz29_4
                try clear hfz29_5
                try clear hfz32_0
                try clear hfz32_1
                try clear hfz32_2
                try clear hfz32_3
                try clear hfz32_4
                try clear hfz32_5
                try clear hfz33_0
                try clear hfz33_1
                try clear hfz33_2
                try clear hfz33_3
                try clear hfz33_4
                try clear hfz33_5
                try clear hfz36_0
                try clear hfz36_1
                try clear hfz36_2
                try clear hfz36_3
                try clear hfz36_4
                try clear hfz36_5
                try clear hfz37_0
                try clear hfz37_1
                try clear hfz37_2
                try clear hfz37_3
                try clear hfz37_4
                try clear hfz37_5
                try clear hfz43_0
                try clear hfz43_1
                try clear hfz43_2
                try clear hfz43_3
                try clear hfz43_4
                try clear hfz43_5
                try clear hfz44_0
                try clear hfz44_1
                try clear hfz44_2
                try clear hfz44_3
                try clear hfz44_4
                try clear hfz44_5
                try clear hfz8_0
                try clear hfz8_1
                try clear hfz8_2
                try clear hfz8_3
                try clear hfz8_4
                try clear hfz8_5
                try clear hfz9_0
                try clear hfz9_1
                try clear hfz9_2
                try clear hfz9_3
                try clear hfz9_4
                try clear hfz9_5
                try clear p2
                obtain ⟨x6_3, rfl, HA, HK3, BK252, BK253, HB⟩ := hrel
                cases gk with
                | zero => exact absurd HA.out (by simp [relictref03_Same.l0])
                | succ k3 =>
                  have H := HA.out
                  clear HA
                  simp only [relictref03_Same.l0] at H
                  by_cases c46 : x6_3 < (l0_5.length : Int)
                  · rw [if_pos c46] at H
                    have c46b0 : decide (x6_3 < (l0_5.length : Int)) = true := decide_eq_true c46
                    clear c46
                    by_cases c47 : 0 ≤ x6_3
                    · rw [if_pos c47] at H
                      have c47b0 : decide (0 ≤ x6_3) = true := decide_eq_true c47
                      clear c47
                      by_cases c48 : x6_3 < (l1_5.length : Int)
                      · rw [if_pos c48] at H
                        have c48b0 : decide (x6_3 < (l1_5.length : Int)) = true := decide_eq_true c48
                        clear c48
                        replace H := Option.bind_eq_some_iff.mp H
                        obtain ⟨t257, A490, H⟩ := H
                        replace H : (if t257 = true then (relictref03_Same.l0 k3 (wrap64 (x6_3 + 1)) a0_0 a0_1 l0_2 a0_3 a0_4 l0_5 a1_0 a1_1 l1_2 a1_3 a1_4 l1_5) else (some false)) = some r := H
                        have A49 := Aside0.mk A490
                        clear A490
                        by_cases c50 : t257 = true
                        · subst c50
                          have H1 : (relictref03_Same.l0 k3 (wrap64 (x6_3 + 1)) a0_0 a0_1 l0_2 a0_3 a0_4 l0_5 a1_0 a1_1 l1_2 a1_3 a1_4 l1_5) = some r := by rw [if_pos rfl] at H; exact H
                          clear H
                          have H := H1
                          clear H1
                          have H' := Aside0.mk H
                          clear H
                          have hnb51 := NB252_253.out
                          have hnc51 := NB253_252.out
                          have hcz52_0 : wr.cell? ⟨gb252, 0, none⟩ = some (.int .i64 a0_0) := (blk_cell BK252.out 0).trans rfl
                          have hcz52_1 : wr.cell? ⟨gb252, 1, none⟩ = some (.bool a0_1) := (blk_cell BK252.out 1).trans rfl
                          have hcz52_2 : wr.cell? ⟨gb252, 2, none⟩ = some (.slice A0_2 l0_2.length c0_2) := (blk_cell BK252.out 2).trans rfl
                          have hcz52_3 : wr.cell? ⟨gb252, 3, none⟩ = some (.string a0_3) := (blk_cell BK252.out 3).trans rfl
                          have hcz52_4 : wr.cell? ⟨gb252, 4, none⟩ = some (.int .i64 a0_4) := (blk_cell BK252.out 4).trans rfl
                          have hcz52_5 : wr.cell? ⟨gb252, 5, none⟩ = some (.slice A0_5 l0_5.length c0_5) := (blk_cell BK252.out 5).trans rfl
                          have hfz52_0 := blk_frozen BK252.out 0
                          have hfz52_1 := blk_frozen BK252.out 1
                          have hfz52_2 := blk_frozen BK252.out 2
                          have hfz52_3 := blk_frozen BK252.out 3
                          have hfz52_4 := blk_frozen BK252.out 4
                          have hfz52_5 := blk_frozen BK252.out 5
                          try go_wp2
                          have n0_ := Aside0.mk (blk_drew BK252.out)
                          have n1_ := Aside0.mk (blk_drew BK253.out)
                          have n2_ := Aside0.mk (below_drew1 HB.out)
                          clear BK252
                          clear BK253
                          clear HB
                          have BK252 := n0_
                          have BK253 := n1_
                          have HB := n2_
                          clear n0_ n1_ n2_
                          have p255 : 0 ≤ (x6_3 : Int) := of_decide_eq_true (by first | (with_reducible assumption) | assumption)
                          have q255 : x6_3 < (l0_5.length : Int) := of_decide_eq_true (by first | (with_reducible assumption) | assumption)
                          obtain ⟨ad255, A255_2, c255_2, A255_5, c255_5, e255, hx255_0, hx255_1, hx255_2, hx255_3, hx255_4, hx255_5, hl255_2, hi255_2, hl255_5, hi255_5⟩ := at_T43 HR0_5.out x6_3 p255 q255
                          have hw255_5 := hx255_5
                          have hw255_4 := hx255_4
                          have hw255_3 := hx255_3
                          have hw255_2 := hx255_2
                          have hw255_1 := hx255_1
                          have hw255_0 := hx255_0
                          cases e255
                          replace hx255_0 := (HB.out.cell (World.block_lt_of_cell? w _ hx255_0)).trans hx255_0
                          replace hx255_1 := (HB.out.cell (World.block_lt_of_cell? w _ hx255_1)).trans hx255_1
                          replace hx255_2 := (HB.out.cell (World.block_lt_of_cell? w _ hx255_2)).trans hx255_2
                          replace hx255_3 := (HB.out.cell (World.block_lt_of_cell? w _ hx255_3)).trans hx255_3
                          replace hx255_4 := (HB.out.cell (World.block_lt_of_cell? w _ hx255_4)).trans hx255_4
                          replace hx255_5 := (HB.out.cell (World.block_lt_of_cell? w _ hx255_5)).trans hx255_5
                          have HR255_2 := Aside0.mk hi255_2
                          have HC255_2 := Aside0.mk hl255_2
                          clear hi255_2 hl255_2
                          have HR255_5 := Aside0.mk hi255_5
                          have HC255_5 := Aside0.mk hl255_5
                          clear hi255_5 hl255_5
                          replace p255 := eq_true p255
                          replace q255 := eq_true q255
                          have p256 : 0 ≤ (x6_3 : Int) := of_decide_eq_true (by first | (with_reducible assumption) | assumption)
                          have q256 : x6_3 < (l1_5.length : Int) := of_decide_eq_true (by first | (with_reducible assumption) | assumption)
                          obtain ⟨ad256, A256_2, c256_2, A256_5, c256_5, e256, hx256_0, hx256_1, hx256_2, hx256_3, hx256_4, hx256_5, hl256_2, hi256_2, hl256_5, hi256_5⟩ := at_T43 HR1_5.out x6_3 p256 q256
                          have hw256_5 := hx256_5
                          have hw256_4 := hx256_4
                          have hw256_3 := hx256_3
                          have hw256_2 := hx256_2
                          have hw256_1 := hx256_1
                          have hw256_0 := hx256_0
                          cases e256
                          replace hx256_0 := (HB.out.cell (World.block_lt_of_cell? w _ hx256_0)).trans hx256_0
                          replace hx256_1 := (HB.out.cell (World.block_lt_of_cell? w _ hx256_1)).trans hx256_1
                          replace hx256_2 := (HB.out.cell (World.block_lt_of_cell? w _ hx256_2)).trans hx256_2
                          replace hx256_3 := (HB.out.cell (World.block_lt_of_cell? w _ hx256_3)).trans hx256_3
                          replace hx256_4 := (HB.out.cell (World.block_lt_of_cell? w _ hx256_4)).trans hx256_4
                          replace hx256_5 := (HB.out.cell (World.block_lt_of_cell? w _ hx256_5)).trans hx256_5
                          have HR256_2 := Aside0.mk hi256_2
                          have HC256_2 := Aside0.mk hl256_2
                          clear hi256_2 hl256_2
                          have HR256_5 := Aside0.mk hi256_5
                          have HC256_5 := Aside0.mk hl256_5
                          clear hi256_5 hl256_5
                          replace p256 := eq_true p256
                          replace q256 := eq_true q256
                          refine start_ (n := 12) (S := fun w' => w'.cell? ⟨gb252, 0, none⟩ = some (.int .i64 a0_0) ∧ w'.cell? ⟨gb252, 1, none⟩ = some (.bool a0_1) ∧ w'.cell? ⟨gb252, 2, none⟩ = some (.slice A0_2 l0_2.length c0_2) ∧ w'.cell? ⟨gb252, 3, none⟩ = some (.string a0_3) ∧ w'.cell? ⟨gb252, 4, none⟩ = some (.int .i64 a0_4) ∧ w'.cell? ⟨gb252, 5, none⟩ = some (.slice (some ad255) l0_5.length c0_5) ∧ w'.cell? ⟨gb253, 0, none⟩ = some (.int .i64 a1_0) ∧ w'.cell? ⟨gb253, 1, none⟩ = some (.bool a1_1) ∧ w'.cell? ⟨gb253, 2, none⟩ = some (.slice A1_2 l1_2.length c1_2) ∧ w'.cell? ⟨gb253, 3, none⟩ = some (.string a1_3) ∧ w'.cell? ⟨gb253, 4, none⟩ = some (.int .i64 a1_4) ∧ w'.cell? ⟨gb253, 5, none⟩ = some (.slice (some ad256) l1_5.length c1_5) ∧ w'.cell? (ad255.add ((x6_3).toNat * 6)) = some (.int .i64 ((rd_T43 l0_5 x6_3).f0)) ∧ w'.cell? ⟨(ad255.add ((x6_3).toNat * 6)).block, (ad255.add ((x6_3).toNat * 6)).off + 1, none⟩ = some (.bool ((rd_T43 l0_5 x6_3).f1.f0)) ∧ w'.cell? ⟨(ad255.add ((x6_3).toNat * 6)).block, (ad255.add ((x6_3).toNat * 6)).off + 2, none⟩ = some (.slice A255_2 ((rd_T43 l0_5 x6_3).f1.f1).length c255_2) ∧ w'.cell? ⟨(ad255.add ((x6_3).toNat * 6)).block, (ad255.add ((x6_3).toNat * 6)).off + 3, none⟩ = some (.string ((rd_T43 l0_5 x6_3).f2)) ∧ w'.cell? ⟨(ad255.add ((x6_3).toNat * 6)).block, (ad255.add ((x6_3).toNat * 6)).off + 4, none⟩ = some (.int .i64 ((rd_T43 l0_5 x6_3).f3)) ∧ w'.cell? ⟨(ad255.add ((x6_3).toNat * 6)).block, (ad255.add ((x6_3).toNat * 6)).off + 5, none⟩ = some (.slice A255_5 ((rd_T43 l0_5 x6_3).f4).length c255_5) ∧ w'.cell? (ad256.add ((x6_3).toNat * 6)) = some (.int .i64 ((rd_T43 l1_5 x6_3).f0)) ∧ w'.cell? ⟨(ad256.add ((x6_3).toNat * 6)).block, (ad256.add ((x6_3).toNat * 6)).off + 1, none⟩ = some (.bool ((rd_T43 l1_5 x6_3).f1.f0)) ∧ w'.cell? ⟨(ad256.add ((x6_3).toNat * 6)).block, (ad256.add ((x6_3).toNat * 6)).off + 2, none⟩ = some (.slice A256_2 ((rd_T43 l1_5 x6_3).f1.f1).length c256_2) ∧ w'.cell? ⟨(ad256.add ((x6_3).toNat * 6)).block, (ad256.add ((x6_3).toNat * 6)).off + 3, none⟩ = some (.string ((rd_T43 l1_5 x6_3).f2)) ∧ w'.cell? ⟨(ad256.add ((x6_3).toNat * 6)).block, (ad256.add ((x6_3).toNat * 6)).off + 4, none⟩ = some (.int .i64 ((rd_T43 l1_5 x6_3).f3)) ∧ w'.cell? ⟨(ad256.add ((x6_3).toNat * 6)).block, (ad256.add ((x6_3).toNat * 6)).off + 5, none⟩ = some (.slice A256_5 ((rd_T43 l1_5 x6_3).f4).length c256_5)) (ds := []) #[false, false, false, false, false, false, false, false, false, false, false, false] (by kernel_rfl) rfl rfl ⟨(blk_cell BK252.out 0).trans rfl, (blk_cell BK252.out 1).trans rfl, (blk_cell BK252.out 2).trans rfl, (blk_cell BK252.out 3).trans rfl, (blk_cell BK252.out 4).trans rfl, (blk_cell BK252.out 5).trans rfl, (blk_cell BK253.out 0).trans rfl, (blk_cell BK253.out 1).trans rfl, (blk_cell BK253.out 2).trans rfl, (blk_cell BK253.out 3).trans rfl, (blk_cell BK253.out 4).trans rfl, (blk_cell BK253.out 5).trans rfl, ((HB.out.cell (World.block_lt_of_cell? w _ hw255_0)).trans hw255_0), ((HB.out.cell (World.block_lt_of_cell? w _ hw255_1)).trans hw255_1), ((HB.out.cell (World.block_lt_of_cell? w _ hw255_2)).trans hw255_2), ((HB.out.cell (World.block_lt_of_cell? w _ hw255_3)).trans hw255_3), ((HB.out.cell (World.block_lt_of_cell? w _ hw255_4)).trans hw255_4), ((HB.out.cell (World.block_lt_of_cell? w _ hw255_5)).trans hw255_5), ((HB.out.cell (World.block_lt_of_cell? w _ hw256_0)).trans hw256_0), ((HB.out.cell (World.block_lt_of_cell? w _ hw256_1)).trans hw256_1), ((HB.out.cell (World.block_lt_of_cell? w _ hw256_2)).trans hw256_2), ((HB.out.cell (World.block_lt_of_cell? w _ hw256_3)).trans hw256_3), ((HB.out.cell (World.block_lt_of_cell? w _ hw256_4)).trans hw256_4), ((HB.out.cell (World.block_lt_of_cell? w _ hw256_5)).trans hw256_5)⟩ (fun hHeld => ?_); refine with_tabW relictref03_Same.tab25 relictref03_Same.bits25 (fun HT_ HW_ => ?_)
                          generalize wr.drew = w53 at BK252 BK253 HB HR255_2 HR255_5 HR256_2 HR256_5 hx255_0 hx255_1 hx255_2 hx255_3 hx255_4 hx255_5 hx256_0 hx256_1 hx256_2 hx256_3 hx256_4 hx256_5 hHeld ⊢
                          refine pure_ (i := 0) (N := some 78) (v := ?_) (a' := ?_) #[true, false, false, false, false, false, false, false, false, false, false, false] rfl rfl (any_of HT_.out (by kernel_rfl)) (fun _ _ _ h => h) (Or.inl ⟨by rfl, ?_⟩) ?_ ?_
                          rotate_left
                          · intro w'
                            go_simp
                            with_reducible rfl
                          rotate_left
                          · simp only [Act.put, List.setIfInBounds_toArray, List.set_cons_zero, List.set_cons_succ, i64_w, i32_w]
                            rfl
                          refine pure_ (i := 2) (N := some 80) (v := ?_) (a' := ?_) #[true, false, true, false, false, false, false, false, false, false, false, false] rfl rfl (any_of HT_.out (by kernel_rfl)) (fun _ _ _ h => h) (Or.inl ⟨by rfl, ?_⟩) ?_ ?_
                          rotate_left
                          · intro w'
                            go_simp
                            with_reducible rfl
                          rotate_left
                          · simp only [Act.put, List.setIfInBounds_toArray, List.set_cons_zero, List.set_cons_succ, i64_w, i32_w]
                            rfl
                          refine pure_ (i := 5) (N := some 83) (v := ?_) (a' := ?_) #[true, false, true, false, false, true, false, false, false, false, false, false] rfl rfl (any_of HT_.out (by kernel_rfl)) (fun _ _ _ h => h) (Or.inl ⟨by rfl, ?_⟩) ?_ ?_
                          rotate_left
                          · intro w'
                            go_simp
                            with_reducible rfl
                          rotate_left
                          · simp only [Act.put, List.setIfInBounds_toArray, List.set_cons_zero, List.set_cons_succ, i64_w, i32_w]
                            rfl
                          refine pure_ (i := 7) (N := some 85) (v := ?_) (a' := ?_) #[true, false, true, false, false, true, false, true, false, false, false, false] rfl rfl (any_of HT_.out (by kernel_rfl)) (fun _ _ _ h => h) (Or.inl ⟨by rfl, ?_⟩) ?_ ?_
                          rotate_left
                          · intro w'
                            go_simp
                            with_reducible rfl
                          rotate_left
                          · simp only [Act.put, List.setIfInBounds_toArray, List.set_cons_zero, List.set_cons_succ, i64_w, i32_w]
                            rfl
                          refine take_ (i := 1) (N := some 79) (v := ?_) (a' := ?_) #[true, true, true, false, false, true, false, true, false, false, false, false] rfl rfl (take_ofW HT_.out HW_.out (by kernel_rfl)) (fun _ _ _ h => h) (Or.inl ⟨by rfl, ?_⟩) hHeld ?_ ?_
                          rotate_left
                          · rintro w' ⟨s0, s1, s2, s3, s4, s5, s6, s7, s8, s9, s10, s11, s12, s13, s14, s15, s16, s17, s18, s19, s20, s21, s22, s23⟩
                            go_simp
                            with_reducible rfl
                          rotate_left
                          · simp only [Act.put, List.setIfInBounds_toArray, List.set_cons_zero, List.set_cons_succ, i64_w, i32_w]
                            rfl
                          refine pure_ (i := 3) (N := some 81) (v := ?_) (a' := ?_) #[true, true, true, true, false, true, false, true, false, false, false, false] rfl rfl (any_of HT_.out (by kernel_rfl)) (fun _ _ _ h => h) (Or.inl ⟨by rfl, ?_⟩) ?_ ?_
                          rotate_left
                          · intro w'
                            go_simp
                            with_reducible rfl
                          rotate_left
                          · simp only [Act.put, List.setIfInBounds_toArray, List.set_cons_zero, List.set_cons_succ, i64_w, i32_w]
                            rfl
                          refine take_ (i := 4) (N := some 82) (v := ?_) (a' := ?_) #[true, true, true, true, true, true, false, true, false, false, false, false] rfl rfl (take_ofW HT_.out HW_.out (by kernel_rfl)) (fun _ _ _ h => h) (Or.inl ⟨by rfl, ?_⟩) hHeld ?_ ?_
                          rotate_left
                          · rintro w' ⟨s0, s1, s2, s3, s4, s5, s6, s7, s8, s9, s10, s11, s12, s13, s14, s15, s16, s17, s18, s19, s20, s21, s22, s23⟩
                            go_simp
                            with_reducible rfl
                          rotate_left
                          · simp only [Act.put, List.setIfInBounds_toArray, List.set_cons_zero, List.set_cons_succ, i64_w, i32_w]
                            rfl
                          refine take_ (i := 6) (N := some 84) (v := ?_) (a' := ?_) #[true, true, true, true, true, true, true, true, false, false, false, false] rfl rfl (take_ofW HT_.out HW_.out (by kernel_rfl)) (fun _ _ _ h => h) (Or.inl ⟨by rfl, ?_⟩) hHeld ?_ ?_
                          rotate_left
                          · rintro w' ⟨s0, s1, s2, s3, s4, s5, s6, s7, s8, s9, s10, s11, s12, s13, s14, s15, s16, s17, s18, s19, s20, s21, s22, s23⟩
                            go_simp
                            with_reducible rfl
                          rotate_left
                          · simp only [Act.put, List.setIfInBounds_toArray, List.set_cons_zero, List.set_cons_succ, i64_w, i32_w]
                            rfl
                          refine pure_ (i := 8) (N := some 86) (v := ?_) (a' := ?_) #[true, true, true, true, true, true, true, true, true, false, false, false] rfl rfl (any_of HT_.out (by kernel_rfl)) (fun _ _ _ h => h) (Or.inl ⟨by rfl, ?_⟩) ?_ ?_
                          rotate_left
                          · intro w'
                            go_simp
                            with_reducible rfl
                          rotate_left
                          · simp only [Act.put, List.setIfInBounds_toArray, List.set_cons_zero, List.set_cons_succ, i64_w, i32_w]
                            rfl
                          refine take_ (i := 9) (N := some 87) (v := ?_) (a' := ?_) #[true, true, true, true, true, true, true, true, true, true, false, false] rfl rfl (take_ofW HT_.out HW_.out (by kernel_rfl)) (fun _ _ _ h => h) (Or.inl ⟨by rfl, ?_⟩) hHeld ?_ ?_
                          rotate_left
                          · rintro w' ⟨s0, s1, s2, s3, s4, s5, s6, s7, s8, s9, s10, s11, s12, s13, s14, s15, s16, s17, s18, s19, s20, s21, s22, s23⟩
                            go_simp
                            with_reducible rfl
                          rotate_left
                          · simp only [Act.put, List.setIfInBounds_toArray, List.set_cons_zero, List.set_cons_succ, i64_w, i32_w]
                            rfl
                          refine one_ (i := 10) (N := some 88) #[true, true, true, true, true, true, true, true, true, true, true, false] rfl rfl (one_of HT_.out (by kernel_rfl)) (by decide) (fun K hK => ?_)
                          refine goes_ Try.func47 (by kernel_rfl) rfl #[.agg #[.int .i64 ((rd_T43 l0_5 x6_3).f0), .bool ((rd_T43 l0_5 x6_3).f1.f0), .slice A255_2 ((rd_T43 l0_5 x6_3).f1.f1).length c255_2, .string ((rd_T43 l0_5 x6_3).f2), .int .i64 ((rd_T43 l0_5 x6_3).f3), .slice A255_5 ((rd_T43 l0_5 x6_3).f4).length c255_5], .agg #[.int .i64 ((rd_T43 l1_5 x6_3).f0), .bool ((rd_T43 l1_5 x6_3).f1.f0), .slice A256_2 ((rd_T43 l1_5 x6_3).f1.f1).length c256_2, .string ((rd_T43 l1_5 x6_3).f2), .int .i64 ((rd_T43 l1_5 x6_3).f3), .slice A256_5 ((rd_T43 l1_5 x6_3).f4).length c256_5]] (by rfl) rfl rfl (by (try simp only [List.map_toArray, List.map_cons, List.map_nil]); first | done | rfl | (simp only [List.length_drop, List.length_take]; rfl)) ?_
                          with_reducible refine (ih k3 (by have := HJ3.out; have := HJ39.out; have := HK3.out; omega) ((rd_T43 l0_5 x6_3).f0) ((rd_T43 l0_5 x6_3).f1.f0) _ _ ((rd_T43 l0_5 x6_3).f1.f1) ((rd_T43 l0_5 x6_3).f2) ((rd_T43 l0_5 x6_3).f3) _ _ ((rd_T43 l0_5 x6_3).f4) ((rd_T43 l1_5 x6_3).f0) ((rd_T43 l1_5 x6_3).f1.f0) _ _ ((rd_T43 l1_5 x6_3).f1.f1) ((rd_T43 l1_5 x6_3).f2) ((rd_T43 l1_5 x6_3).f3) _ _ ((rd_T43 l1_5 x6_3).f4) true _ ?side1 ?side2 ?side3 ?side4 ?side5 ?side6 ?side7 ?side8 A49.out).mono ?_
                          (case side1 => repeat (first | exact (Kd.C_below HR255_2.out HB.out) | (with_reducible refine Kd.C_alloc ?_ _) | (with_reducible refine Kd.C_drewN ?_ _) | (with_reducible refine Kd.C_drew ?_)))
                          (case side2 => exact HC255_2.out)
                          (case side3 => repeat (first | exact (Kd.C_below HR255_5.out HB.out) | (with_reducible refine Kd.C_alloc ?_ _) | (with_reducible refine Kd.C_drewN ?_ _) | (with_reducible refine Kd.C_drew ?_)))
                          (case side4 => exact HC255_5.out)
                          (case side5 => repeat (first | exact (Kd.C_below HR256_2.out HB.out) | (with_reducible refine Kd.C_alloc ?_ _) | (with_reducible refine Kd.C_drewN ?_ _) | (with_reducible refine Kd.C_drew ?_)))
                          (case side6 => exact HC256_2.out)
                          (case side7 => repeat (first | exact (Kd.C_below HR256_5.out HB.out) | (with_reducible refine Kd.C_alloc ?_ _) | (with_reducible refine Kd.C_drewN ?_ _) | (with_reducible refine Kd.C_drew ?_)))
                          (case side8 => exact HC256_5.out)
                          rintro e w54 ⟨rfl, hb⟩
                          refine ⟨_, rfl, ?_⟩
                          have n0_ := Aside0.mk (blk_below (g := gb252) (o := .cells #[.int .i64 a0_0, .bool a0_1, .slice A0_2 l0_2.length c0_2, .string a0_3, .int .i64 a0_4, .slice (some ad255) l0_5.length c0_5] 43 (0, 0)) (by (with_reducible repeat (first | refine blk_drewN ?_ _ | refine blk_drew ?_ | refine blk_alloc ?_ _)); exact BK252.out) hb)
                          have n1_ := Aside0.mk (blk_below (g := gb253) (o := .cells #[.int .i64 a1_0, .bool a1_1, .slice A1_2 l1_2.length c1_2, .string a1_3, .int .i64 a1_4, .slice (some ad256) l1_5.length c1_5] 43 (0, 0)) (by (with_reducible repeat (first | refine blk_drewN ?_ _ | refine blk_drew ?_ | refine blk_alloc ?_ _)); exact BK253.out) hb)
                          have n2_ := Aside0.mk (below_step (by repeat (first | (with_reducible first | exact HB.out | apply below_alloc | apply pw_below_drewN | apply below_drew1 | refine below_set ?_ GE252.out | refine below_set ?_ GE253.out) | exact HB.out)) hb)
                          clear BK252
                          clear BK253
                          clear HB
                          have BK252 := n0_
                          have BK253 := n1_
                          have HB := n2_
                          clear n0_ n1_ n2_
                          (try clear hb)
                          (try clear hb2)
                          (try clear hk)
                          (try clear hi)
                          refine hK.out _ _ ⟨(blk_cell BK252.out 0).trans rfl, (blk_cell BK252.out 1).trans rfl, (blk_cell BK252.out 2).trans rfl, (blk_cell BK252.out 3).trans rfl, (blk_cell BK252.out 4).trans rfl, (blk_cell BK252.out 5).trans rfl, (blk_cell BK253.out 0).trans rfl, (blk_cell BK253.out 1).trans rfl, (blk_cell BK253.out 2).trans rfl, (blk_cell BK253.out 3).trans rfl, (blk_cell BK253.out 4).trans rfl, (blk_cell BK253.out 5).trans rfl, ((HB.out.cell (World.block_lt_of_cell? w _ hw255_0)).trans hw255_0), ((HB.out.cell (World.block_lt_of_cell? w _ hw255_1)).trans hw255_1), ((HB.out.cell (World.block_lt_of_cell? w _ hw255_2)).trans hw255_2), ((HB.out.cell (World.block_lt_of_cell? w _ hw255_3)).trans hw255_3), ((HB.out.cell (World.block_lt_of_cell? w _ hw255_4)).trans hw255_4), ((HB.out.cell (World.block_lt_of_cell? w _ hw255_5)).trans hw255_5), ((HB.out.cell (World.block_lt_of_cell? w _ hw256_0)).trans hw256_0), ((HB.out.cell (World.block_lt_of_cell? w _ hw256_1)).trans hw256_1), ((HB.out.cell (World.block_lt_of_cell? w _ hw256_2)).trans hw256_2), ((HB.out.cell (World.block_lt_of_cell? w _ hw256_3)).trans hw256_3), ((HB.out.cell (World.block_lt_of_cell? w _ hw256_4)).trans hw256_4), ((HB.out.cell (World.block_lt_of_cell? w _ hw256_5)).trans hw256_5)⟩ (fun hHeld => ?_)
                          clear hK K
                          refine norm_ (a' := ?_) ?_ ?_
                          rotate_left
                          · show Act.put _ (some 88) _ = _
                            simp only [Act.put, List.setIfInBounds_toArray, List.set_cons_zero, List.set_cons_succ, i64_w, i32_w]
                            rfl
                          refine pure_ (i := 11) (N := some 89) (v := ?_) (a' := ?_) #[true, true, true, true, true, true, true, true, true, true, true, true] rfl rfl (any_of HT_.out (by kernel_rfl)) (fun _ _ _ h => h) (Or.inl ⟨by rfl, ?_⟩) ?_ ?_
                          rotate_left
                          · intro w'
                            go_simp
                            with_reducible rfl
                          rotate_left
                          · simp only [Act.put, List.setIfInBounds_toArray, List.set_cons_zero, List.set_cons_succ, i64_w, i32_w]
                            rfl
                          refine done_ (done_of HT_.out (by kernel_rfl)) ?_
                          try go_wp2
                          go_roundg k3
                          case measure => have := HJ3.out; have := HJ39.out; have := HK3.out; omega
                          case rel => exact ⟨(wrap64 (x6_3 + 1)), (by first | rfl | (simp; done) | (simp [*]; done)), H', ⟨by have := HJ3.out; have := HJ39.out; have := HK3.out; omega⟩, ⟨by (with_reducible repeat (first | refine blk_drewN ?_ _ | refine blk_drew ?_ | refine blk_alloc ?_ _)); exact BK252.out⟩, ⟨by (with_reducible repeat (first | refine blk_drewN ?_ _ | refine blk_drew ?_ | refine blk_alloc ?_ _)); exact BK253.out⟩, ⟨by repeat (first | (with_reducible first | exact HB.out | apply below_alloc | apply pw_below_drewN | apply below_drew1 | refine below_set ?_ GE252.out | refine below_set ?_ GE253.out) | exact HB.out)⟩⟩
                        · replace c50 := Bool.eq_false_iff.mpr c50
                          subst c50
                          have H1 : (some false) = some r := by rw [if_neg (show ¬ (false = true) by decide)] at H; exact H
                          clear H
                          have H := H1
                          clear H1
                          obtain rfl := Option.some.inj H
                          have hnb55 := NB252_253.out
                          have hnc55 := NB253_252.out
                          have hcz56_0 : wr.cell? ⟨gb252, 0, none⟩ = some (.int .i64 a0_0) := (blk_cell BK252.out 0).trans rfl
                          have hcz56_1 : wr.cell? ⟨gb252, 1, none⟩ = some (.bool a0_1) := (blk_cell BK252.out 1).trans rfl
                          have hcz56_2 : wr.cell? ⟨gb252, 2, none⟩ = some (.slice A0_2 l0_2.length c0_2) := (blk_cell BK252.out 2).trans rfl
                          have hcz56_3 : wr.cell? ⟨gb252, 3, none⟩ = some (.string a0_3) := (blk_cell BK252.out 3).trans rfl
                          have hcz56_4 : wr.cell? ⟨gb252, 4, none⟩ = some (.int .i64 a0_4) := (blk_cell BK252.out 4).trans rfl
                          have hcz56_5 : wr.cell? ⟨gb252, 5, none⟩ = some (.slice A0_5 l0_5.length c0_5) := (blk_cell BK252.out 5).trans rfl
                          have hfz56_0 := blk_frozen BK252.out 0
                          have hfz56_1 := blk_frozen BK252.out 1
                          have hfz56_2 := blk_frozen BK252.out 2
                          have hfz56_3 := blk_frozen BK252.out 3
                          have hfz56_4 := blk_frozen BK252.out 4
                          have hfz56_5 := blk_frozen BK252.out 5
                          try go_wp2
                          have n0_ := Aside0.mk (blk_drew BK252.out)
                          have n1_ := Aside0.mk (blk_drew BK253.out)
                          have n2_ := Aside0.mk (below_drew1 HB.out)
                          clear BK252
                          clear BK253
                          clear HB
                          have BK252 := n0_
                          have BK253 := n1_
                          have HB := n2_
                          clear n0_ n1_ n2_
                          have p255 : 0 ≤ (x6_3 : Int) := of_decide_eq_true (by first | (with_reducible assumption) | assumption)
                          have q255 : x6_3 < (l0_5.length : Int) := of_decide_eq_true (by first | (with_reducible assumption) | assumption)
                          obtain ⟨ad255, A255_2, c255_2, A255_5, c255_5, e255, hx255_0, hx255_1, hx255_2, hx255_3, hx255_4, hx255_5, hl255_2, hi255_2, hl255_5, hi255_5⟩ := at_T43 HR0_5.out x6_3 p255 q255
                          have hw255_5 := hx255_5
                          have hw255_4 := hx255_4
                          have hw255_3 := hx255_3
                          have hw255_2 := hx255_2
                          have hw255_1 := hx255_1
                          have hw255_0 := hx255_0
                          cases e255
                          replace hx255_0 := (HB.out.cell (World.block_lt_of_cell? w _ hx255_0)).trans hx255_0
                          replace hx255_1 := (HB.out.cell (World.block_lt_of_cell? w _ hx255_1)).trans hx255_1
                          replace hx255_2 := (HB.out.cell (World.block_lt_of_cell? w _ hx255_2)).trans hx255_2
                          replace hx255_3 := (HB.out.cell (World.block_lt_of_cell? w _ hx255_3)).trans hx255_3
                          replace hx255_4 := (HB.out.cell (World.block_lt_of_cell? w _ hx255_4)).trans hx255_4
                          replace hx255_5 := (HB.out.cell (World.block_lt_of_cell? w _ hx255_5)).trans hx255_5
                          have HR255_2 := Aside0.mk hi255_2
                          have HC255_2 := Aside0.mk hl255_2
                          clear hi255_2 hl255_2
                          have HR255_5 := Aside0.mk hi255_5
                          have HC255_5 := Aside0.mk hl255_5
                          clear hi255_5 hl255_5
                          replace p255 := eq_true p255
                          replace q255 := eq_true q255
                          have p256 : 0 ≤ (x6_3 : Int) := of_decide_eq_true (by first | (with_reducible assumption) | assumption)
                          have q256 : x6_3 < (l1_5.length : Int) := of_decide_eq_true (by first | (with_reducible assumption) | assumption)
                          obtain ⟨ad256, A256_2, c256_2, A256_5, c256_5, e256, hx256_0, hx256_1, hx256_2, hx256_3, hx256_4, hx256_5, hl256_2, hi256_2, hl256_5, hi256_5⟩ := at_T43 HR1_5.out x6_3 p256 q256
                          have hw256_5 := hx256_5
                          have hw256_4 := hx256_4
                          have hw256_3 := hx256_3
                          have hw256_2 := hx256_2
                          have hw256_1 := hx256_1
                          have hw256_0 := hx256_0
                          cases e256
                          replace hx256_0 := (HB.out.cell (World.block_lt_of_cell? w _ hx256_0)).trans hx256_0
                          replace hx256_1 := (HB.out.cell (World.block_lt_of_cell? w _ hx256_1)).trans hx256_1
                          replace hx256_2 := (HB.out.cell (World.block_lt_of_cell? w _ hx256_2)).trans hx256_2
                          replace hx256_3 := (HB.out.cell (World.block_lt_of_cell? w _ hx256_3)).trans hx256_3
                          replace hx256_4 := (HB.out.cell (World.block_lt_of_cell? w _ hx256_4)).trans hx256_4
                          replace hx256_5 := (HB.out.cell (World.block_lt_of_cell? w _ hx256_5)).trans hx256_5
                          have HR256_2 := Aside0.mk hi256_2
                          have HC256_2 := Aside0.mk hl256_2
                          clear hi256_2 hl256_2
                          have HR256_5 := Aside0.mk hi256_5
                          have HC256_5 := Aside0.mk hl256_5
                          clear hi256_5 hl256_5
                          replace p256 := eq_true p256
                          replace q256 := eq_true q256
                          refine start_ (n := 12) (S := fun w' => w'.cell? ⟨gb252, 0, none⟩ = some (.int .i64 a0_0) ∧ w'.cell? ⟨gb252, 1, none⟩ = some (.bool a0_1) ∧ w'.cell? ⟨gb252, 2, none⟩ = some (.slice A0_2 l0_2.length c0_2) ∧ w'.cell? ⟨gb252, 3, none⟩ = some (.string a0_3) ∧ w'.cell? ⟨gb252, 4, none⟩ = some (.int .i64 a0_4) ∧ w'.cell? ⟨gb252, 5, none⟩ = some (.slice (some ad255) l0_5.length c0_5) ∧ w'.cell? ⟨gb253, 0, none⟩ = some (.int .i64 a1_0) ∧ w'.cell? ⟨gb253, 1, none⟩ = some (.bool a1_1) ∧ w'.cell? ⟨gb253, 2, none⟩ = some (.slice A1_2 l1_2.length c1_2) ∧ w'.cell? ⟨gb253, 3, none⟩ = some (.string a1_3) ∧ w'.cell? ⟨gb253, 4, none⟩ = some (.int .i64 a1_4) ∧ w'.cell? ⟨gb253, 5, none⟩ = some (.slice (some ad256) l1_5.length c1_5) ∧ w'.cell? (ad255.add ((x6_3).toNat * 6)) = some (.int .i64 ((rd_T43 l0_5 x6_3).f0)) ∧ w'.cell? ⟨(ad255.add ((x6_3).toNat * 6)).block, (ad255.add ((x6_3).toNat * 6)).off + 1, none⟩ = some (.bool ((rd_T43 l0_5 x6_3).f1.f0)) ∧ w'.cell? ⟨(ad255.add ((x6_3).toNat * 6)).block, (ad255.add ((x6_3).toNat * 6)).off + 2, none⟩ = some (.slice A255_2 ((rd_T43 l0_5 x6_3).f1.f1).length c255_2) ∧ w'.cell? ⟨(ad255.add ((x6_3).toNat * 6)).block, (ad255.add ((x6_3).toNat * 6)).off + 3, none⟩ = some (.string ((rd_T43 l0_5 x6_3).f2)) ∧ w'.cell? ⟨(ad255.add ((x6_3).toNat * 6)).block, (ad255.add ((x6_3).toNat * 6)).off + 4, none⟩ = some (.int .i64 ((rd_T43 l0_5 x6_3).f3)) ∧ w'.cell? ⟨(ad255.add ((x6_3).toNat * 6)).block, (ad255.add ((x6_3).toNat * 6)).off + 5, none⟩ = some (.slice A255_5 ((rd_T43 l0_5 x6_3).f4).length c255_5) ∧ w'.cell? (ad256.add ((x6_3).toNat * 6)) = some (.int .i64 ((rd_T43 l1_5 x6_3).f0)) ∧ w'.cell? ⟨(ad256.add ((x6_3).toNat * 6)).block, (ad256.add ((x6_3).toNat * 6)).off + 1, none⟩ = some (.bool ((rd_T43 l1_5 x6_3).f1.f0)) ∧ w'.cell? ⟨(ad256.add ((x6_3).toNat * 6)).block, (ad256.add ((x6_3).toNat * 6)).off + 2, none⟩ = some (.slice A256_2 ((rd_T43 l1_5 x6_3).f1.f1).length c256_2) ∧ w'.cell? ⟨(ad256.add ((x6_3).toNat * 6)).block, (ad256.add ((x6_3).toNat * 6)).off + 3, none⟩ = some (.string ((rd_T43 l1_5 x6_3).f2)) ∧ w'.cell? ⟨(ad256.add ((x6_3).toNat * 6)).block, (ad256.add ((x6_3).toNat * 6)).off + 4, none⟩ = some (.int .i64 ((rd_T43 l1_5 x6_3).f3)) ∧ w'.cell? ⟨(ad256.add ((x6_3).toNat * 6)).block, (ad256.add ((x6_3).toNat * 6)).off + 5, none⟩ = some (.slice A256_5 ((rd_T43 l1_5 x6_3).f4).length c256_5)) (ds := []) #[false, false, false, false, false, false, false, false, false, false, false, false] (by kernel_rfl) rfl rfl ⟨(blk_cell BK252.out 0).trans rfl, (blk_cell BK252.out 1).trans rfl, (blk_cell BK252.out 2).trans rfl, (blk_cell BK252.out 3).trans rfl, (blk_cell BK252.out 4).trans rfl, (blk_cell BK252.out 5).trans rfl, (blk_cell BK253.out 0).trans rfl, (blk_cell BK253.out 1).trans rfl, (blk_cell BK253.out 2).trans rfl, (blk_cell BK253.out 3).trans rfl, (blk_cell BK253.out 4).trans rfl, (blk_cell BK253.out 5).trans rfl, ((HB.out.cell (World.block_lt_of_cell? w _ hw255_0)).trans hw255_0), ((HB.out.cell (World.block_lt_of_cell? w _ hw255_1)).trans hw255_1), ((HB.out.cell (World.block_lt_of_cell? w _ hw255_2)).trans hw255_2), ((HB.out.cell (World.block_lt_of_cell? w _ hw255_3)).trans hw255_3), ((HB.out.cell (World.block_lt_of_cell? w _ hw255_4)).trans hw255_4), ((HB.out.cell (World.block_lt_of_cell? w _ hw255_5)).trans hw255_5), ((HB.out.cell (World.block_lt_of_cell? w _ hw256_0)).trans hw256_0), ((HB.out.cell (World.block_lt_of_cell? w _ hw256_1)).trans hw256_1), ((HB.out.cell (World.block_lt_of_cell? w _ hw256_2)).trans hw256_2), ((HB.out.cell (World.block_lt_of_cell? w _ hw256_3)).trans hw256_3), ((HB.out.cell (World.block_lt_of_cell? w _ hw256_4)).trans hw256_4), ((HB.out.cell (World.block_lt_of_cell? w _ hw256_5)).trans hw256_5)⟩ (fun hHeld => ?_); refine with_tabW relictref03_Same.tab25 relictref03_Same.bits25 (fun HT_ HW_ => ?_)
                          generalize wr.drew = w57 at BK252 BK253 HB HR255_2 HR255_5 HR256_2 HR256_5 hx255_0 hx255_1 hx255_2 hx255_3 hx255_4 hx255_5 hx256_0 hx256_1 hx256_2 hx256_3 hx256_4 hx256_5 hHeld ⊢
                          refine pure_ (i := 0) (N := some 78) (v := ?_) (a' := ?_) #[true, false, false, false, false, false, false, false, false, false, false, false] rfl rfl (any_of HT_.out (by kernel_rfl)) (fun _ _ _ h => h) (Or.inl ⟨by rfl, ?_⟩) ?_ ?_
                          rotate_left
                          · intro w'
                            go_simp
                            with_reducible rfl
                          rotate_left
                          · simp only [Act.put, List.setIfInBounds_toArray, List.set_cons_zero, List.set_cons_succ, i64_w, i32_w]
                            rfl
                          refine pure_ (i := 2) (N := some 80) (v := ?_) (a' := ?_) #[true, false, true, false, false, false, false, false, false, false, false, false] rfl rfl (any_of HT_.out (by kernel_rfl)) (fun _ _ _ h => h) (Or.inl ⟨by rfl, ?_⟩) ?_ ?_
                          rotate_left
                          · intro w'
                            go_simp
                            with_reducible rfl
                          rotate_left
                          · simp only [Act.put, List.setIfInBounds_toArray, List.set_cons_zero, List.set_cons_succ, i64_w, i32_w]
                            rfl
                          refine pure_ (i := 5) (N := some 83) (v := ?_) (a' := ?_) #[true, false, true, false, false, true, false, false, false, false, false, false] rfl rfl (any_of HT_.out (by kernel_rfl)) (fun _ _ _ h => h) (Or.inl ⟨by rfl, ?_⟩) ?_ ?_
                          rotate_left
                          · intro w'
                            go_simp
                            with_reducible rfl
                          rotate_left
                          · simp only [Act.put, List.setIfInBounds_toArray, List.set_cons_zero, List.set_cons_succ, i64_w, i32_w]
                            rfl
                          refine pure_ (i := 7) (N := some 85) (v := ?_) (a' := ?_) #[true, false, true, false, false, true, false, true, false, false, false, false] rfl rfl (any_of HT_.out (by kernel_rfl)) (fun _ _ _ h => h) (Or.inl ⟨by rfl, ?_⟩) ?_ ?_
                          rotate_left
                          · intro w'
                            go_simp
                            with_reducible rfl
                          rotate_left
                          · simp only [Act.put, List.setIfInBounds_toArray, List.set_cons_zero, List.set_cons_succ, i64_w, i32_w]
                            rfl
                          refine take_ (i := 1) (N := some 79) (v := ?_) (a' := ?_) #[true, true, true, false, false, true, false, true, false, false, false, false] rfl rfl (take_ofW HT_.out HW_.out (by kernel_rfl)) (fun _ _ _ h => h) (Or.inl ⟨by rfl, ?_⟩) hHeld ?_ ?_
                          rotate_left
                          · rintro w' ⟨s0, s1, s2, s3, s4, s5, s6, s7, s8, s9, s10, s11, s12, s13, s14, s15, s16, s17, s18, s19, s20, s21, s22, s23⟩
                            go_simp
                            with_reducible rfl
                          rotate_left
                          · simp only [Act.put, List.setIfInBounds_toArray, List.set_cons_zero, List.set_cons_succ, i64_w, i32_w]
                            rfl
                          refine pure_ (i := 3) (N := some 81) (v := ?_) (a' := ?_) #[true, true, true, true, false, true, false, true, false, false, false, false] rfl rfl (any_of HT_.out (by kernel_rfl)) (fun _ _ _ h => h) (Or.inl ⟨by rfl, ?_⟩) ?_ ?_
                          rotate_left
                          · intro w'
                            go_simp
                            with_reducible rfl
                          rotate_left
                          · simp only [Act.put, List.setIfInBounds_toArray, List.set_cons_zero, List.set_cons_succ, i64_w, i32_w]
                            rfl
                          refine take_ (i := 4) (N := some 82) (v := ?_) (a' := ?_) #[true, true, true, true, true, true, false, true, false, false, false, false] rfl rfl (take_ofW HT_.out HW_.out (by kernel_rfl)) (fun _ _ _ h => h) (Or.inl ⟨by rfl, ?_⟩) hHeld ?_ ?_
                          rotate_left
                          · rintro w' ⟨s0, s1, s2, s3, s4, s5, s6, s7, s8, s9, s10, s11, s12, s13, s14, s15, s16, s17, s18, s19, s20, s21, s22, s23⟩
                            go_simp
                            with_reducible rfl
                          rotate_left
                          · simp only [Act.put, List.setIfInBounds_toArray, List.set_cons_zero, List.set_cons_succ, i64_w, i32_w]
                            rfl
                          refine take_ (i := 6) (N := some 84) (v := ?_) (a' := ?_) #[true, true, true, true, true, true, true, true, false, false, false, false] rfl rfl (take_ofW HT_.out HW_.out (by kernel_rfl)) (fun _ _ _ h => h) (Or.inl ⟨by rfl, ?_⟩) hHeld ?_ ?_
                          rotate_left
                          · rintro w' ⟨s0, s1, s2, s3, s4, s5, s6, s7, s8, s9, s10, s11, s12, s13, s14, s15, s16, s17, s18, s19, s20, s21, s22, s23⟩
                            go_simp
                            with_reducible rfl
                          rotate_left
                          · simp only [Act.put, List.setIfInBounds_toArray, List.set_cons_zero, List.set_cons_succ, i64_w, i32_w]
                            rfl
                          refine pure_ (i := 8) (N := some 86) (v := ?_) (a' := ?_) #[true, true, true, true, true, true, true, true, true, false, false, false] rfl rfl (any_of HT_.out (by kernel_rfl)) (fun _ _ _ h => h) (Or.inl ⟨by rfl, ?_⟩) ?_ ?_
                          rotate_left
                          · intro w'
                            go_simp
                            with_reducible rfl
                          rotate_left
                          · simp only [Act.put, List.setIfInBounds_toArray, List.set_cons_zero, List.set_cons_succ, i64_w, i32_w]
                            rfl
                          refine take_ (i := 9) (N := some 87) (v := ?_) (a' := ?_) #[true, true, true, true, true, true, true, true, true, true, false, false] rfl rfl (take_ofW HT_.out HW_.out (by kernel_rfl)) (fun _ _ _ h => h) (Or.inl ⟨by rfl, ?_⟩) hHeld ?_ ?_
                          rotate_left
                          · rintro w' ⟨s0, s1, s2, s3, s4, s5, s6, s7, s8, s9, s10, s11, s12, s13, s14, s15, s16, s17, s18, s19, s20, s21, s22, s23⟩
                            go_simp
                            with_reducible rfl
                          rotate_left
                          · simp only [Act.put, List.setIfInBounds_toArray, List.set_cons_zero, List.set_cons_succ, i64_w, i32_w]
                            rfl
                          refine one_ (i := 10) (N := some 88) #[true, true, true, true, true, true, true, true, true, true, true, false] rfl rfl (one_of HT_.out (by kernel_rfl)) (by decide) (fun K hK => ?_)
                          refine goes_ Try.func47 (by kernel_rfl) rfl #[.agg #[.int .i64 ((rd_T43 l0_5 x6_3).f0), .bool ((rd_T43 l0_5 x6_3).f1.f0), .slice A255_2 ((rd_T43 l0_5 x6_3).f1.f1).length c255_2, .string ((rd_T43 l0_5 x6_3).f2), .int .i64 ((rd_T43 l0_5 x6_3).f3), .slice A255_5 ((rd_T43 l0_5 x6_3).f4).length c255_5], .agg #[.int .i64 ((rd_T43 l1_5 x6_3).f0), .bool ((rd_T43 l1_5 x6_3).f1.f0), .slice A256_2 ((rd_T43 l1_5 x6_3).f1.f1).length c256_2, .string ((rd_T43 l1_5 x6_3).f2), .int .i64 ((rd_T43 l1_5 x6_3).f3), .slice A256_5 ((rd_T43 l1_5 x6_3).f4).length c256_5]] (by rfl) rfl rfl (by (try simp only [List.map_toArray, List.map_cons, List.map_nil]); first | done | rfl | (simp only [List.length_drop, List.length_take]; rfl)) ?_
                          with_reducible refine (ih k3 (by have := HJ3.out; have := HJ39.out; have := HK3.out; omega) ((rd_T43 l0_5 x6_3).f0) ((rd_T43 l0_5 x6_3).f1.f0) _ _ ((rd_T43 l0_5 x6_3).f1.f1) ((rd_T43 l0_5 x6_3).f2) ((rd_T43 l0_5 x6_3).f3) _ _ ((rd_T43 l0_5 x6_3).f4) ((rd_T43 l1_5 x6_3).f0) ((rd_T43 l1_5 x6_3).f1.f0) _ _ ((rd_T43 l1_5 x6_3).f1.f1) ((rd_T43 l1_5 x6_3).f2) ((rd_T43 l1_5 x6_3).f3) _ _ ((rd_T43 l1_5 x6_3).f4) false _ ?side1 ?side2 ?side3 ?side4 ?side5 ?side6 ?side7 ?side8 A49.out).mono ?_
                          (case side1 => repeat (first | exact (Kd.C_below HR255_2.out HB.out) | (with_reducible refine Kd.C_alloc ?_ _) | (with_reducible refine Kd.C_drewN ?_ _) | (with_reducible refine Kd.C_drew ?_)))
                          (case side2 => exact HC255_2.out)
                          (case side3 => repeat (first | exact (Kd.C_below HR255_5.out HB.out) | (with_reducible refine Kd.C_alloc ?_ _) | (with_reducible refine Kd.C_drewN ?_ _) | (with_reducible refine Kd.C_drew ?_)))
                          (case side4 => exact HC255_5.out)
                          (case side5 => repeat (first | exact (Kd.C_below HR256_2.out HB.out) | (with_reducible refine Kd.C_alloc ?_ _) | (with_reducible refine Kd.C_drewN ?_ _) | (with_reducible refine Kd.C_drew ?_)))
                          (case side6 => exact HC256_2.out)
                          (case side7 => repeat (first | exact (Kd.C_below HR256_5.out HB.out) | (with_reducible refine Kd.C_alloc ?_ _) | (with_reducible refine Kd.C_drewN ?_ _) | (with_reducible refine Kd.C_drew ?_)))
                          (case side8 => exact HC256_5.out)
                          rintro e w58 ⟨rfl, hb⟩
                          refine ⟨_, rfl, ?_⟩
                          have n0_ := Aside0.mk (blk_below (g := gb252) (o := .cells #[.int .i64 a0_0, .bool a0_1, .slice A0_2 l0_2.length c0_2, .string a0_3, .int .i64 a0_4, .slice (some ad255) l0_5.length c0_5] 43 (0, 0)) (by (with_reducible repeat (first | refine blk_drewN ?_ _ | refine blk_drew ?_ | refine blk_alloc ?_ _)); exact BK252.out) hb)
                          have n1_ := Aside0.mk (blk_below (g := gb253) (o := .cells #[.int .i64 a1_0, .bool a1_1, .slice A1_2 l1_2.length c1_2, .string a1_3, .int .i64 a1_4, .slice (some ad256) l1_5.length c1_5] 43 (0, 0)) (by (with_reducible repeat (first | refine blk_drewN ?_ _ | refine blk_drew ?_ | refine blk_alloc ?_ _)); exact BK253.out) hb)
                          have n2_ := Aside0.mk (below_step (by repeat (first | (with_reducible first | exact HB.out | apply below_alloc | apply pw_below_drewN | apply below_drew1 | refine below_set ?_ GE252.out | refine below_set ?_ GE253.out) | exact HB.out)) hb)
                          clear BK252
                          clear BK253
                          clear HB
                          have BK252 := n0_
                          have BK253 := n1_
                          have HB := n2_
                          clear n0_ n1_ n2_
                          (try clear hb)
                          (try clear hb2)
                          (try clear hk)
                          (try clear hi)
                          refine hK.out _ _ ⟨(blk_cell BK252.out 0).trans rfl, (blk_cell BK252.out 1).trans rfl, (blk_cell BK252.out 2).trans rfl, (blk_cell BK252.out 3).trans rfl, (blk_cell BK252.out 4).trans rfl, (blk_cell BK252.out 5).trans rfl, (blk_cell BK253.out 0).trans rfl, (blk_cell BK253.out 1).trans rfl, (blk_cell BK253.out 2).trans rfl, (blk_cell BK253.out 3).trans rfl, (blk_cell BK253.out 4).trans rfl, (blk_cell BK253.out 5).trans rfl, ((HB.out.cell (World.block_lt_of_cell? w _ hw255_0)).trans hw255_0), ((HB.out.cell (World.block_lt_of_cell? w _ hw255_1)).trans hw255_1), ((HB.out.cell (World.block_lt_of_cell? w _ hw255_2)).trans hw255_2), ((HB.out.cell (World.block_lt_of_cell? w _ hw255_3)).trans hw255_3), ((HB.out.cell (World.block_lt_of_cell? w _ hw255_4)).trans hw255_4), ((HB.out.cell (World.block_lt_of_cell? w _ hw255_5)).trans hw255_5), ((HB.out.cell (World.block_lt_of_cell? w _ hw256_0)).trans hw256_0), ((HB.out.cell (World.block_lt_of_cell? w _ hw256_1)).trans hw256_1), ((HB.out.cell (World.block_lt_of_cell? w _ hw256_2)).trans hw256_2), ((HB.out.cell (World.block_lt_of_cell? w _ hw256_3)).trans hw256_3), ((HB.out.cell (World.block_lt_of_cell? w _ hw256_4)).trans hw256_4), ((HB.out.cell (World.block_lt_of_cell? w _ hw256_5)).trans hw256_5)⟩ (fun hHeld => ?_)
                          clear hK K
                          refine norm_ (a' := ?_) ?_ ?_
                          rotate_left
                          · show Act.put _ (some 88) _ = _
                            simp only [Act.put, List.setIfInBounds_toArray, List.set_cons_zero, List.set_cons_succ, i64_w, i32_w]
                            rfl
                          refine pure_ (i := 11) (N := some 89) (v := ?_) (a' := ?_) #[true, true, true, true, true, true, true, true, true, true, true, true] rfl rfl (any_of HT_.out (by kernel_rfl)) (fun _ _ _ h => h) (Or.inl ⟨by rfl, ?_⟩) ?_ ?_
                          rotate_left
                          · intro w'
                            go_simp
                            with_reducible rfl
                          rotate_left
                          · simp only [Act.put, List.setIfInBounds_toArray, List.set_cons_zero, List.set_cons_succ, i64_w, i32_w]
                            rfl
                          refine done_ (done_of HT_.out (by kernel_rfl)) ?_
                          try go_wp2
                          go_ret
                          exact ⟨by first | rfl | (simp [errW_none, errW_some] <;> rfl) | (simp [*, errW_none, errW_some] <;> rfl), by repeat (first | (with_reducible first | exact HB.out | apply below_alloc | apply pw_below_drewN | apply below_drew1 | refine below_set ?_ GE252.out | refine below_set ?_ GE253.out) | exact HB.out)⟩
                      · rw [if_neg c48] at H
                        exact absurd H (by simp)
                    · rw [if_neg c47] at H
                      exact absurd H (by simp)
                  · rw [if_neg c46] at H
                    have c46b0 : decide (x6_3 < (l0_5.length : Int)) = false := decide_eq_false c46
                    clear c46
                    obtain rfl := Option.some.inj H
                    have hnb59 := NB252_253.out
                    have hnc59 := NB253_252.out
                    have hcz60_0 : wr.cell? ⟨gb252, 0, none⟩ = some (.int .i64 a0_0) := (blk_cell BK252.out 0).trans rfl
                    have hcz60_1 : wr.cell? ⟨gb252, 1, none⟩ = some (.bool a0_1) := (blk_cell BK252.out 1).trans rfl
                    have hcz60_2 : wr.cell? ⟨gb252, 2, none⟩ = some (.slice A0_2 l0_2.length c0_2) := (blk_cell BK252.out 2).trans rfl
                    have hcz60_3 : wr.cell? ⟨gb252, 3, none⟩ = some (.string a0_3) := (blk_cell BK252.out 3).trans rfl
                    have hcz60_4 : wr.cell? ⟨gb252, 4, none⟩ = some (.int .i64 a0_4) := (blk_cell BK252.out 4).trans rfl
                    have hcz60_5 : wr.cell? ⟨gb252, 5, none⟩ = some (.slice A0_5 l0_5.length c0_5) := (blk_cell BK252.out 5).trans rfl
                    have hfz60_0 := blk_frozen BK252.out 0
                    have hfz60_1 := blk_frozen BK252.out 1
                    have hfz60_2 := blk_frozen BK252.out 2
                    have hfz60_3 := blk_frozen BK252.out 3
                    have hfz60_4 := blk_frozen BK252.out 4
                    have hfz60_5 := blk_frozen BK252.out 5
                    go_wp2
                    go_ret
                    exact ⟨by first | rfl | (simp [errW_none, errW_some] <;> rfl) | (simp [*, errW_none, errW_some] <;> rfl), by repeat (first | (with_reducible first | exact HB.out | apply below_alloc | apply pw_below_drewN | apply below_drew1 | refine below_set ?_ GE252.out | refine below_set ?_ GE253.out) | exact HB.out)⟩
  · rw [if_neg c3] at H
    have c3b0 : (a0_0 == a1_0) = false := beq_eq_false_iff_ne.mpr c3
    have c3b1 : (a0_0 != a1_0) = true := bne_iff_ne.mpr c3
    obtain rfl := Option.some.inj H
    go_enter Try.func47, Try.ntmps47
    go_wp2_with (first | ((with_reducible refine gate_dst (N := 2) rfl ?_); (try (refine gate_guard (by rfl) ?_; dsimp only)); refine box_event ?hg (N := 2) ?hd (cs := #[.int .i64 a0_0, .bool a0_1, .slice A0_2 l0_2.length c0_2, .string a0_3, .int .i64 a0_4, .slice A0_5 l0_5.length c0_5]) (t := 43) ?hr ?_; (case hd => rfl); (case hg => rfl); (case hr => first | (go_simp; done) | (go_simp; rfl)); intro gb252 hg w61 hbox hb; have n0_ := Aside0.mk (below_step (by repeat (first | (with_reducible first | exact HB.out | apply below_alloc | apply pw_below_drewN | apply below_drew1) | exact HB.out)) hb); have n1_ := Aside0.mk (hbox); have n2_ := Aside0.mk ((by rw [hg]; exact (below_size (by repeat (first | (with_reducible first | exact HB.out | apply below_alloc | apply pw_below_drewN | apply below_drew1) | exact HB.out))) : w.heap.size ≤ gb252)); have n3_ := Aside0.mk ((by rw [hg]; exact (below_size (by repeat (first | (with_reducible first | exact HB.out | apply below_alloc | apply pw_below_drewN | apply below_drew1) | exact HB.out))) : w.heap.size ≤ gb252)); clear HB; have HB := n0_; have BK252 := n1_; have GW252 := n2_; have GE252 := n3_; clear n0_ n1_ n2_ n3_; clear hb hbox hg) | ((with_reducible refine gate_dst (N := 3) rfl ?_); (try (refine gate_guard (by rfl) ?_; dsimp only)); refine box_event ?hg (N := 3) ?hd (cs := #[.int .i64 a1_0, .bool a1_1, .slice A1_2 l1_2.length c1_2, .string a1_3, .int .i64 a1_4, .slice A1_5 l1_5.length c1_5]) (t := 43) ?hr ?_; (case hd => rfl); (case hg => rfl); (case hr => first | (go_simp; done) | (go_simp; rfl)); intro gb253 hg w62 hbox hb; have n0_ := Aside0.mk (blk_below (g := gb252) (o := .cells #[.int .i64 a0_0, .bool a0_1, .slice A0_2 l0_2.length c0_2, .string a0_3, .int .i64 a0_4, .slice A0_5 l0_5.length c0_5] 43 (0, 0)) (by (with_reducible repeat (first | refine blk_drewN ?_ _ | refine blk_drew ?_ | refine blk_alloc ?_ _)); exact BK252.out) hb); have n1_ := Aside0.mk (below_step (by repeat (first | (with_reducible first | exact HB.out | apply below_alloc | apply pw_below_drewN | apply below_drew1 | refine below_set ?_ GE252.out) | exact HB.out)) hb); have n2_ := Aside0.mk (hbox); have n3_ := Aside0.mk ((by rw [hg]; exact (below_size (by repeat (first | (with_reducible first | exact HB.out | apply below_alloc | apply pw_below_drewN | apply below_drew1 | refine below_set ?_ GE252.out) | exact HB.out))) : w.heap.size ≤ gb253)); have n4_ := Aside0.mk ((by rw [hg]; exact (below_size (by repeat (first | (with_reducible first | exact HB.out | apply below_alloc | apply pw_below_drewN | apply below_drew1 | refine below_set ?_ GE252.out) | exact HB.out))) : w.heap.size ≤ gb253)); have n5_ := Aside0.mk ((by rw [hg]; exact Nat.ne_of_lt (blk_lt (g := gb252) (o := .cells #[.int .i64 a0_0, .bool a0_1, .slice A0_2 l0_2.length c0_2, .string a0_3, .int .i64 a0_4, .slice A0_5 l0_5.length c0_5] 43 (0, 0)) (by (with_reducible repeat (first | refine blk_drewN ?_ _ | refine blk_drew ?_ | refine blk_alloc ?_ _)); exact BK252.out)) : gb252 ≠ gb253)); have n6_ := Aside0.mk ((by rw [hg]; exact Nat.ne_of_gt (blk_lt (g := gb252) (o := .cells #[.int .i64 a0_0, .bool a0_1, .slice A0_2 l0_2.length c0_2, .string a0_3, .int .i64 a0_4, .slice A0_5 l0_5.length c0_5] 43 (0, 0)) (by (with_reducible repeat (first | refine blk_drewN ?_ _ | refine blk_drew ?_ | refine blk_alloc ?_ _)); exact BK252.out)) : gb253 ≠ gb252)); clear BK252; clear HB; have BK252 := n0_; have HB := n1_; have BK253 := n2_; have GW253 := n3_; have GE253 := n4_; have NB252_253 := n5_; have NB253_252 := n6_; clear n0_ n1_ n2_ n3_ n4_ n5_ n6_; clear hb hbox hg; have hnb63 := NB252_253.out; have hnc63 := NB253_252.out; have hcz64_0 : w62.cell? ⟨gb252, 0, none⟩ = some (.int .i64 a0_0) := (blk_cell BK252.out 0).trans rfl; have hcz64_1 : w62.cell? ⟨gb252, 1, none⟩ = some (.bool a0_1) := (blk_cell BK252.out 1).trans rfl; have hcz64_2 : w62.cell? ⟨gb252, 2, none⟩ = some (.slice A0_2 l0_2.length c0_2) := (blk_cell BK252.out 2).trans rfl; have hcz64_3 : w62.cell? ⟨gb252, 3, none⟩ = some (.string a0_3) := (blk_cell BK252.out 3).trans rfl; have hcz64_4 : w62.cell? ⟨gb252, 4, none⟩ = some (.int .i64 a0_4) := (blk_cell BK252.out 4).trans rfl; have hcz64_5 : w62.cell? ⟨gb252, 5, none⟩ = some (.slice A0_5 l0_5.length c0_5) := (blk_cell BK252.out 5).trans rfl; have hfz64_0 := blk_frozen BK252.out 0; have hfz64_1 := blk_frozen BK252.out 1; have hfz64_2 := blk_frozen BK252.out 2; have hfz64_3 := blk_frozen BK252.out 3; have hfz64_4 := blk_frozen BK252.out 4; have hfz64_5 := blk_frozen BK252.out 5; have hcz65_0 : w62.cell? ⟨gb253, 0, none⟩ = some (.int .i64 a1_0) := (blk_cell BK253.out 0).trans rfl; have hcz65_1 : w62.cell? ⟨gb253, 1, none⟩ = some (.bool a1_1) := (blk_cell BK253.out 1).trans rfl; have hcz65_2 : w62.cell? ⟨gb253, 2, none⟩ = some (.slice A1_2 l1_2.length c1_2) := (blk_cell BK253.out 2).trans rfl; have hcz65_3 : w62.cell? ⟨gb253, 3, none⟩ = some (.string a1_3) := (blk_cell BK253.out 3).trans rfl; have hcz65_4 : w62.cell? ⟨gb253, 4, none⟩ = some (.int .i64 a1_4) := (blk_cell BK253.out 4).trans rfl; have hcz65_5 : w62.cell? ⟨gb253, 5, none⟩ = some (.slice A1_5 l1_5.length c1_5) := (blk_cell BK253.out 5).trans rfl; have hfz65_0 := blk_frozen BK253.out 0; have hfz65_1 := blk_frozen BK253.out 1; have hfz65_2 := blk_frozen BK253.out 2; have hfz65_3 := blk_frozen BK253.out 3; have hfz65_4 := blk_frozen BK253.out 4; have hfz65_5 := blk_frozen BK253.out 5))
    go_ret
    exact ⟨by first | rfl | (simp [errW_none, errW_some] <;> rfl) | (simp [*, errW_none, errW_some] <;> rfl), by repeat (first | (with_reducible first | exact HB.out | apply below_alloc | apply pw_below_drewN | apply below_drew1 | refine below_set ?_ GE252.out | refine below_set ?_ GE253.out) | exact HB.out)⟩

end Go.Proofs.Ytlifdpfhepamfaa.PHe
