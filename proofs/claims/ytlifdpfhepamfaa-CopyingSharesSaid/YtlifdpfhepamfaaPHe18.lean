-- Printed by the kit's print.py from a list of bodies that this session turned in four places; parts of it are this session's own.
import Derived.Test.YtlifdpfhepamfaaPHe0
import Derived.Test.YtlifdpfhepamfaaPHe1
import Derived.Test.YtlifdpfhepamfaaPHe5
namespace Go.Proofs.Ytlifdpfhepamfaa.PHe
open Go.RowKit Go.Proofs.YtlifdpfhepamfaaW.PrintWords Go.Proofs.YtlifdpfhepamfaaW.PrintLast Go.Proofs.YtlifdpfhepamfaaW.PrintMore
attribute [local go_sem] max2_int min2_int max_two min_two max_three min_three max_four min_four   -- for this text's walks alone
set_option linter.unusedVariables false
set_option linter.unusedSimpArgs false

/-! ### relictref10_cut: function 126 -/
def relictref10_cut.f (a0 : Int) : Option (Int) := some (mn (mx a0 0) 1099511627776)
set_option maxHeartbeats 8000000 in
set_option maxRecDepth 100000 in
theorem relictref10_cut.calls (a0 : Int) (r : Int) (w : World) (h : relictref10_cut.f a0 = some r) :
    Calls Try.prog 126 #[.int .i64 a0] w fun e w' => e = .returned (.int .u64 r) ∧ Below w.heap.size w w' := by
  have HB := Aside0.mk (Below.refl w.heap.size w)
  have H : (some (mn (mx a0 0) 1099511627776)) = some r := h
  clear h
  obtain ⟨ji2, hji2⟩ : ∃ j_ : Int, (mx a0 0) = j_ := ⟨_, rfl⟩
  replace H : (some (mn (ji2) 1099511627776)) = some r := by first | (rw [hji2] at H; exact H) | (simp only [hji2] at H ⊢; exact H)
  (try (have hji2l : 0 ≤ ji2 := by (rw [← hji2]; unfold mx; (repeat' split) <;> omega)))
  (try (have hji2m : 0 ≤ ji2 := by omega))
  have hji2_ : (if a0 < 0 then 0 else a0) = ji2 := hji2
  obtain ⟨ji3, hji3⟩ : ∃ j_ : Int, (mn (ji2) 1099511627776) = j_ := ⟨_, rfl⟩
  replace H : (some ji3) = some r := by first | (rw [hji3] at H; exact H) | (simp only [hji3] at H ⊢; exact H)
  have hji3_ : (if 1099511627776 < (ji2) then 1099511627776 else (ji2)) = ji3 := hji3
  obtain rfl := Option.some.inj H
  go_enter Try.func126, Try.ntmps126
  go_wp2
  go_ret
  exact ⟨by first | rfl | (simp [errW_none, errW_some] <;> rfl) | (simp only [← hji2, ← hji3]; first | rfl | (simp [errW_none, errW_some] <;> rfl)) | (simp [*, errW_none, errW_some] <;> rfl), by repeat (first | (with_reducible first | exact HB.out | apply below_alloc | apply pw_below_drewN | apply below_drew1) | exact HB.out)⟩

/-! ### relictref10_AtomOf: function 77 -/
def relictref10_AtomOf.f (a0 : Int) : Option (Int) := (relictref10_cut.f a0).bind fun t623 => (some (Go.bits .or .u64 (IntKind.u64.wrap (t623 * 16)) 7))
set_option maxHeartbeats 8000000 in
set_option maxRecDepth 100000 in
theorem relictref10_AtomOf.calls (a0 : Int) (r : Int) (w : World) (h : relictref10_AtomOf.f a0 = some r) :
    Calls Try.prog 77 #[.int .i64 a0] w fun e w' => e = .returned (.int .u64 r) ∧ Below w.heap.size w w' := by
  have HB := Aside0.mk (Below.refl w.heap.size w)
  have H : ((relictref10_cut.f a0).bind fun t623 => (some (Go.bits .or .u64 (IntKind.u64.wrap (t623 * 16)) 7))) = some r := h
  clear h
  replace H := Option.bind_eq_some_iff.mp H
  obtain ⟨t623, A20, H⟩ := H
  replace H : (some (Go.bits .or .u64 (IntKind.u64.wrap (t623 * 16)) 7)) = some r := H
  have A2 := Aside0.mk A20
  clear A20
  obtain rfl := Option.some.inj H
  go_enter Try.func77, Try.ntmps77
  go_wp2_with (first | ((with_reducible refine gate_callee (f := 126) rfl ?_); refine goesL_ (some 4) rfl rfl Try.func126 (by kernel_rfl) rfl #[.int .i64 a0] rfl (by (try simp only [List.map_toArray, List.map_cons, List.map_nil]); first | done | rfl | (simp only [List.length_drop, List.length_take]; rfl)) ?_; (with_reducible refine (relictref10_cut.calls a0 t623 _ A2.out).mono ?_); rintro e w3 ⟨rfl, hb⟩; refine ⟨_, rfl, ?_⟩; have n0_ := Aside0.mk (below_step (by repeat (first | (with_reducible first | exact HB.out | apply below_alloc | apply pw_below_drewN | apply below_drew1) | exact HB.out)) hb); clear HB; have HB := n0_; clear n0_; (try clear hb); (try clear hb2); (try clear hk); (try clear hi)))
  go_ret
  exact ⟨by first | rfl | (simp [errW_none, errW_some] <;> rfl) | (simp [*, errW_none, errW_some] <;> rfl), by repeat (first | (with_reducible first | exact HB.out | apply below_alloc | apply pw_below_drewN | apply below_drew1) | exact HB.out)⟩

-- NOT PRINTED: function 26 (relictref12_H_Atom)

/-! ### relictref10_Small: function 118 -/
def relictref10_Small.f (a0 : Int) : Option (Int) := some (Go.bits .or .u64 (IntKind.u64.wrap ((IntKind.u64.wrap (mn (mx a0 (-576460752303423488)) 576460752303423487)) * 16)) 3)
set_option maxHeartbeats 8000000 in
set_option maxRecDepth 100000 in
theorem relictref10_Small.calls (a0 : Int) (r : Int) (w : World) (h : relictref10_Small.f a0 = some r) :
    Calls Try.prog 118 #[.int .i64 a0] w fun e w' => e = .returned (.int .u64 r) ∧ Below w.heap.size w w' := by
  have HB := Aside0.mk (Below.refl w.heap.size w)
  have H : (some (Go.bits .or .u64 (IntKind.u64.wrap ((IntKind.u64.wrap (mn (mx a0 (-576460752303423488)) 576460752303423487)) * 16)) 3)) = some r := h
  clear h
  obtain ⟨ji2, hji2⟩ : ∃ j_ : Int, (mx a0 (-576460752303423488)) = j_ := ⟨_, rfl⟩
  replace H : (some (Go.bits .or .u64 (IntKind.u64.wrap ((IntKind.u64.wrap (mn (ji2) 576460752303423487)) * 16)) 3)) = some r := by first | (rw [hji2] at H; exact H) | (simp only [hji2] at H ⊢; exact H)
  have hji2_ : (if a0 < (-576460752303423488) then (-576460752303423488) else a0) = ji2 := hji2
  obtain ⟨ji3, hji3⟩ : ∃ j_ : Int, (mn (ji2) 576460752303423487) = j_ := ⟨_, rfl⟩
  replace H : (some (Go.bits .or .u64 (IntKind.u64.wrap ((IntKind.u64.wrap (ji3)) * 16)) 3)) = some r := by first | (rw [hji3] at H; exact H) | (simp only [hji3] at H ⊢; exact H)
  have hji3_ : (if 576460752303423487 < (ji2) then 576460752303423487 else (ji2)) = ji3 := hji3
  obtain rfl := Option.some.inj H
  go_enter Try.func118, Try.ntmps118
  go_wp2
  go_ret
  exact ⟨by first | rfl | (simp [errW_none, errW_some] <;> rfl) | (simp only [← hji2, ← hji3]; first | rfl | (simp [errW_none, errW_some] <;> rfl)) | (simp [*, errW_none, errW_some] <;> rfl), by repeat (first | (with_reducible first | exact HB.out | apply below_alloc | apply pw_below_drewN | apply below_drew1) | exact HB.out)⟩

/-! ### relictref10_Pointer: function 120 -/
def relictref10_Pointer.f (a0 : Int) (a1 : Int) : Option (Int) := (relictref10_cut.f a1).bind fun t624 => (some (Go.bits .or .u64 (IntKind.u64.wrap (t624 * 4)) (IntKind.u64.wrap (Go.bits .and .i64 a0 3))))
set_option maxHeartbeats 8000000 in
set_option maxRecDepth 100000 in
theorem relictref10_Pointer.calls (a0 : Int) (a1 : Int) (r : Int) (w : World) (h : relictref10_Pointer.f a0 a1 = some r) :
    Calls Try.prog 120 #[.int .i64 a0, .int .i64 a1] w fun e w' => e = .returned (.int .u64 r) ∧ Below w.heap.size w w' := by
  have HB := Aside0.mk (Below.refl w.heap.size w)
  have H : ((relictref10_cut.f a1).bind fun t624 => (some (Go.bits .or .u64 (IntKind.u64.wrap (t624 * 4)) (IntKind.u64.wrap (Go.bits .and .i64 a0 3))))) = some r := h
  clear h
  replace H := Option.bind_eq_some_iff.mp H
  obtain ⟨t624, A30, H⟩ := H
  replace H : (some (Go.bits .or .u64 (IntKind.u64.wrap (t624 * 4)) (IntKind.u64.wrap (Go.bits .and .i64 a0 3)))) = some r := H
  have A3 := Aside0.mk A30
  clear A30
  obtain rfl := Option.some.inj H
  go_enter Try.func120, Try.ntmps120
  go_wp2_with (first | ((with_reducible refine gate_callee (f := 126) rfl ?_); refine goesL_ (some 6) rfl rfl Try.func126 (by kernel_rfl) rfl #[.int .i64 a1] rfl (by (try simp only [List.map_toArray, List.map_cons, List.map_nil]); first | done | rfl | (simp only [List.length_drop, List.length_take]; rfl)) ?_; (with_reducible refine (relictref10_cut.calls a1 t624 _ A3.out).mono ?_); rintro e w4 ⟨rfl, hb⟩; refine ⟨_, rfl, ?_⟩; have n0_ := Aside0.mk (below_step (by repeat (first | (with_reducible first | exact HB.out | apply below_alloc | apply pw_below_drewN | apply below_drew1) | exact HB.out)) hb); clear HB; have HB := n0_; clear n0_; (try clear hb); (try clear hb2); (try clear hk); (try clear hi)))
  go_ret
  exact ⟨by first | rfl | (simp [errW_none, errW_some] <;> rfl) | (simp [*, errW_none, errW_some] <;> rfl), by repeat (first | (with_reducible first | exact HB.out | apply below_alloc | apply pw_below_drewN | apply below_drew1) | exact HB.out)⟩

-- NOT PRINTED: function 49 (relictref11_A_Alloc)

-- NOT PRINTED: function 50 (relictref11_A_Set)

-- NOT PRINTED: function 121 (relictref12_H_object)

/-! ### relictref10_Head: function 122 -/
def relictref10_Head.f (a0 : Int) (a1 : Int) : Option (Int) := (relictref10_cut.f a1).bind fun t625 => (some (Go.bits .or .u64 (IntKind.u64.wrap (t625 * 64)) (IntKind.u64.wrap ((IntKind.u64.wrap (Go.bits .and .i64 a0 15)) * 4))))
set_option maxHeartbeats 8000000 in
set_option maxRecDepth 100000 in
theorem relictref10_Head.calls (a0 : Int) (a1 : Int) (r : Int) (w : World) (h : relictref10_Head.f a0 a1 = some r) :
    Calls Try.prog 122 #[.int .i64 a0, .int .i64 a1] w fun e w' => e = .returned (.int .u64 r) ∧ Below w.heap.size w w' := by
  have HB := Aside0.mk (Below.refl w.heap.size w)
  have H : ((relictref10_cut.f a1).bind fun t625 => (some (Go.bits .or .u64 (IntKind.u64.wrap (t625 * 64)) (IntKind.u64.wrap ((IntKind.u64.wrap (Go.bits .and .i64 a0 15)) * 4))))) = some r := h
  clear h
  replace H := Option.bind_eq_some_iff.mp H
  obtain ⟨t625, A30, H⟩ := H
  replace H : (some (Go.bits .or .u64 (IntKind.u64.wrap (t625 * 64)) (IntKind.u64.wrap ((IntKind.u64.wrap (Go.bits .and .i64 a0 15)) * 4)))) = some r := H
  have A3 := Aside0.mk A30
  clear A30
  obtain rfl := Option.some.inj H
  go_enter Try.func122, Try.ntmps122
  go_wp2_with (first | ((with_reducible refine gate_callee (f := 126) rfl ?_); refine goesL_ (some 6) rfl rfl Try.func126 (by kernel_rfl) rfl #[.int .i64 a1] rfl (by (try simp only [List.map_toArray, List.map_cons, List.map_nil]); first | done | rfl | (simp only [List.length_drop, List.length_take]; rfl)) ?_; (with_reducible refine (relictref10_cut.calls a1 t625 _ A3.out).mono ?_); rintro e w4 ⟨rfl, hb⟩; refine ⟨_, rfl, ?_⟩; have n0_ := Aside0.mk (below_step (by repeat (first | (with_reducible first | exact HB.out | apply below_alloc | apply pw_below_drewN | apply below_drew1) | exact HB.out)) hb); clear HB; have HB := n0_; clear n0_; (try clear hb); (try clear hb2); (try clear hk); (try clear hi)))
  go_ret
  exact ⟨by first | rfl | (simp [errW_none, errW_some] <;> rfl) | (simp [*, errW_none, errW_some] <;> rfl), by repeat (first | (with_reducible first | exact HB.out | apply below_alloc | apply pw_below_drewN | apply below_drew1) | exact HB.out)⟩

-- NOT PRINTED: function 119 (relictref12_H_number)

-- NOT PRINTED: function 123 (relictref12_H_bytes)

-- NOT PRINTED: function 69 (relictref12_H_put)

-- NOT PRINTED: function 21 (relictref12_H_Put)

-- NOT PRINTED: function 24 (relictref12_H_Number)

/-! ### relictlaw00_SameWords: function 36 -/
def relictlaw00_SameWords.l0 : Nat → List Int → List Int → Int → Option (Bool)
  | 0, _, _, _ => none
  | k + 1, x0, x1, x5 => if x5 < (x0.length : Int) then (if 0 ≤ x5 then (if x5 < (x1.length : Int) then (if (rd x0 x5) = (rd x1 x5) then (relictlaw00_SameWords.l0 k x0 x1 (wrap64 (x5 + 1))) else (some false)) else (none)) else (none)) else (some true)
def relictlaw00_SameWords.f (k : Nat) (l0 : List Int) (l1 : List Int) : Option (Bool) := if (l0.length : Int) = (l1.length : Int) then (relictlaw00_SameWords.l0 k l0 l1 0) else (some false)
theorem relictlaw00_SameWords.mono_l : ∀ k, (∀ y0 y1 y2, LeO (relictlaw00_SameWords.l0 k y0 y1 y2) (relictlaw00_SameWords.l0 (k + 1) y0 y1 y2))
  | 0 => fun _ _ _ r h => by simp [relictlaw00_SameWords.l0] at h
  | k + 1 => by
    have ih0 := relictlaw00_SameWords.mono_l k
    · intro y0 y1 y2
      unfold relictlaw00_SameWords.l0
      repeat' first
      | (with_reducible exact ih0 _ _ _)
      | (with_reducible exact LeO.refl _)
      | (with_reducible exact LeO.none _)
      | (with_reducible refine LeO.ite ?_ ?_)
      | (with_reducible refine LeO.bind ?_ (fun _ => ?_))
      | exact ih0 _ _ _
      | exact LeO.none _
      | refine LeO.ite ?_ ?_
      | refine LeO.bind ?_ (fun _ => ?_)
theorem relictlaw00_SameWords.mono : ∀ a0 a1 k, LeO (relictlaw00_SameWords.f k a0 a1) (relictlaw00_SameWords.f (k + 1) a0 a1) := by
  intro a0 a1 k
  have ih0 := relictlaw00_SameWords.mono_l k
  unfold relictlaw00_SameWords.f
  repeat' first
      | (with_reducible exact ih0 _ _ _)
      | (with_reducible exact LeO.refl _)
      | (with_reducible exact LeO.none _)
      | (with_reducible refine LeO.ite ?_ ?_)
      | (with_reducible refine LeO.bind ?_ (fun _ => ?_))
      | exact ih0 _ _ _
      | exact LeO.none _
      | refine LeO.ite ?_ ?_
      | refine LeO.bind ?_ (fun _ => ?_)
set_option maxHeartbeats 8000000 in
set_option maxRecDepth 100000 in
theorem relictlaw00_SameWords.calls (k : Nat) (A0 : Option Addr) (c0 : Nat) (l0 : List Int) (A1 : Option Addr) (c1 : Nat) (l1 : List Int) (r : Bool) (w : World) (hr0 : Kd.C (Kd.int .u64) w A0 l0.length l0) (hc0 : l0.length ≤ c0) (hr1 : Kd.C (Kd.int .u64) w A1 l1.length l1) (hc1 : l1.length ≤ c1) (h : relictlaw00_SameWords.f k l0 l1 = some r) :
    Calls Try.prog 36 #[.slice A0 l0.length c0, .slice A1 l1.length c1] w fun e w' => e = .returned (.bool r) ∧ Drawn0 w w' := by
  have HR0 := Aside0.mk hr0
  have HC0 := Aside0.mk hc0
  clear hr0 hc0
  have HR1 := Aside0.mk hr1
  have HC1 := Aside0.mk hc1
  clear hr1 hc1
  have H : (if (l0.length : Int) = (l1.length : Int) then (relictlaw00_SameWords.l0 k l0 l1 0) else (some false)) = some r := h
  clear h
  by_cases c3 : (l0.length : Int) = (l1.length : Int)
  · rw [if_pos c3] at H
    have c3b0 : ((l0.length : Int) == (l1.length : Int)) = true := beq_iff_eq.mpr c3
    have c3b1 : ((l0.length : Int) != (l1.length : Int)) = false := bne_eq_false_iff_eq.mpr c3
    have c3b2 : (l0.length == l1.length) = true := by first | simpa using c3 | (simp at c3 ⊢; omega)
    clear c3
    have H' := Aside0.mk H
    clear H
    go_enter Try.func36, Try.ntmps36
    go_wp2
    repeat (go_quiet (fail); try go_wp2)
    go_loopg [5] k (fun kq v5 w' => ∃ (x5_1 : Int), v5 = .int .i64 x5_1 ∧ Aside0 (relictlaw00_SameWords.l0 kq l0 l1 x5_1 = some r) ∧ Aside0 (kq ≤ k) ∧ Drawn0 w w')
    case atStart => exact ⟨(0), (by first | rfl | (simp; done) | (simp [*]; done)), H', ⟨Nat.le_refl _⟩, by repeat (first | exact Drawn0.refl _ | apply Drawn0.step)⟩
    case round =>
      clear H'
      try clear c1
      try clear p2
      try clear c3
      try clear c3b0
      try clear c3b1
      try clear c3b2
      obtain ⟨x5_1, rfl, HA, HK1, ⟨m1, rfl⟩⟩ := hrel
      cases gk with
      | zero => exact absurd HA.out (by simp [relictlaw00_SameWords.l0])
      | succ k1 =>
        have H := HA.out
        clear HA
        simp only [relictlaw00_SameWords.l0] at H
        by_cases c4 : x5_1 < (l0.length : Int)
        · rw [if_pos c4] at H
          have c4b0 : decide (x5_1 < (l0.length : Int)) = true := decide_eq_true c4
          clear c4
          by_cases c5 : 0 ≤ x5_1
          · rw [if_pos c5] at H
            have c5b0 : decide (0 ≤ x5_1) = true := decide_eq_true c5
            clear c5
            by_cases c6 : x5_1 < (l1.length : Int)
            · rw [if_pos c6] at H
              have c6b0 : decide (x5_1 < (l1.length : Int)) = true := decide_eq_true c6
              clear c6
              by_cases c7 : (rd l0 x5_1) = (rd l1 x5_1)
              · rw [if_pos c7] at H
                have c7b0 : ((rd l0 x5_1) == (rd l1 x5_1)) = true := beq_iff_eq.mpr c7
                have c7b1 : ((rd l0 x5_1) != (rd l1 x5_1)) = false := bne_eq_false_iff_eq.mpr c7
                clear c7
                have H' := Aside0.mk H
                clear H
                have p626 : 0 ≤ (x5_1 : Int) := of_decide_eq_true (by first | (with_reducible assumption) | assumption)
                have q626 : x5_1 < (l0.length : Int) := of_decide_eq_true (by first | (with_reducible assumption) | assumption)
                obtain ⟨ad626, e626, hx626_0⟩ := Kd.at_int HR0.out x5_1 p626 q626
                cases e626
                replace p626 := eq_true p626
                replace q626 := eq_true q626
                have p627 : 0 ≤ (x5_1 : Int) := of_decide_eq_true (by first | (with_reducible assumption) | assumption)
                have q627 : x5_1 < (l1.length : Int) := of_decide_eq_true (by first | (with_reducible assumption) | assumption)
                obtain ⟨ad627, e627, hx627_0⟩ := Kd.at_int HR1.out x5_1 p627 q627
                cases e627
                replace p627 := eq_true p627
                replace q627 := eq_true q627
                go_wp2
                repeat (go_quiet (fail); try go_wp2)
                go_roundg k1
                case measure => have := HK1.out; omega
                case rel => exact ⟨(wrap64 (x5_1 + 1)), (by first | rfl | (simp; done) | (simp [*]; done)), H', ⟨by have := HK1.out; omega⟩, by repeat (first | exact Drawn0.refl _ | apply Drawn0.step)⟩
              · rw [if_neg c7] at H
                have c7b0 : ((rd l0 x5_1) == (rd l1 x5_1)) = false := beq_eq_false_iff_ne.mpr c7
                have c7b1 : ((rd l0 x5_1) != (rd l1 x5_1)) = true := bne_iff_ne.mpr c7
                obtain rfl := Option.some.inj H
                have p626 : 0 ≤ (x5_1 : Int) := of_decide_eq_true (by first | (with_reducible assumption) | assumption)
                have q626 : x5_1 < (l0.length : Int) := of_decide_eq_true (by first | (with_reducible assumption) | assumption)
                obtain ⟨ad626, e626, hx626_0⟩ := Kd.at_int HR0.out x5_1 p626 q626
                cases e626
                replace p626 := eq_true p626
                replace q626 := eq_true q626
                have p627 : 0 ≤ (x5_1 : Int) := of_decide_eq_true (by first | (with_reducible assumption) | assumption)
                have q627 : x5_1 < (l1.length : Int) := of_decide_eq_true (by first | (with_reducible assumption) | assumption)
                obtain ⟨ad627, e627, hx627_0⟩ := Kd.at_int HR1.out x5_1 p627 q627
                cases e627
                replace p627 := eq_true p627
                replace q627 := eq_true q627
                go_wp2
                repeat (go_quiet (fail); try go_wp2)
                go_ret
                exact ⟨by first | rfl | (simp; done) | (simp [*]; done), by repeat (first | exact Drawn0.refl _ | apply Drawn0.step)⟩
            · rw [if_neg c6] at H
              exact absurd H (by simp)
          · rw [if_neg c5] at H
            exact absurd H (by simp)
        · rw [if_neg c4] at H
          have c4b0 : decide (x5_1 < (l0.length : Int)) = false := decide_eq_false c4
          clear c4
          obtain rfl := Option.some.inj H
          go_wp2
          repeat (go_quiet (fail); try go_wp2)
          go_ret
          exact ⟨by first | rfl | (simp; done) | (simp [*]; done), by repeat (first | exact Drawn0.refl _ | apply Drawn0.step)⟩
  · rw [if_neg c3] at H
    have c3b0 : ((l0.length : Int) == (l1.length : Int)) = false := beq_eq_false_iff_ne.mpr c3
    have c3b1 : ((l0.length : Int) != (l1.length : Int)) = true := bne_iff_ne.mpr c3
    have c3b2 : (l0.length == l1.length) = false := by first | simpa using c3 | (simp at c3 ⊢; omega)
    obtain rfl := Option.some.inj H
    go_enter Try.func36, Try.ntmps36
    go_wp2
    repeat (go_quiet (fail); try go_wp2)
    go_ret
    exact ⟨by first | rfl | (simp; done) | (simp [*]; done), by repeat (first | exact Drawn0.refl _ | apply Drawn0.step)⟩

-- NOT PRINTED: function 112 (slices_Clone_uint64_uint64)

-- NOT PRINTED: function 61 (arena_Arena_Words)

-- NOT PRINTED: function 25 (relictlaw12_same)

-- NOT PRINTED: function 27 (relictref12_H_Name)

-- NOT PRINTED: function 30 (relictref12_H_Bytes)

-- NOT PRINTED: function 4 (relictlaw12_HeapPlays)

/-! ### copying_inner: function 84 -/
def copying_inner.f (s0_0 : List Int) (s0_1 : Int) (a1 : Int) : Option (Int × Int × Int) := (arena_Arena_Word.f s0_0 s0_1 a1).bind fun bt629 => ((word_HeadOf.f bt629.1).bind fun bt631 => (if bt631.2.2 = true then (if bt631.1 = 1 then (some (1, bt631.2.1, bt629.2)) else (if bt631.1 = 5 then (some (1, mn bt631.2.1 1, bt629.2)) else (if bt631.1 = 6 then (some (2, wrap64 (bt631.2.1 - 1), bt629.2)) else (some (1, 0, bt629.2))))) else (some (0, 2, bt629.2))))
set_option maxHeartbeats 8000000 in
set_option maxRecDepth 100000 in
theorem copying_inner.calls (g : Nat) (s0_0 : List Int) (s0_1 : Int) (a1 : Int) (r1 : Int) (r2 : Int) (r3 : Int) (w0 w : World) (hI : IsS118 w0 w g s0_0 s0_1) (hB : Below w0.heap.size w0 w) (h : copying_inner.f s0_0 s0_1 a1 = some (r1, r2, r3)) :
    Calls Try.prog 84 #[.pointer (some ⟨g, 0, none⟩), .int .i64 a1] w fun e w' => e = .returned (.tuple #[.int .i64 r1, .int .i64 r2]) ∧ IsS118 w0 w' g s0_0 r3 ∧ Below w0.heap.size w0 w' ∧ KeepBut w w' g none := by
  have HI0 := Aside0.mk hI
  have HK := Aside0.mk (KeepBut.refl w g none)
  have HL := Aside0.mk hB.size
  clear hI
  have HW0 := Aside0.mk hB.size
  have HB := Aside0.mk hB
  clear hB
  have H : ((arena_Arena_Word.f s0_0 s0_1 a1).bind fun bt629 => ((word_HeadOf.f bt629.1).bind fun bt631 => (if bt631.2.2 = true then (if bt631.1 = 1 then (some (1, bt631.2.1, bt629.2)) else (if bt631.1 = 5 then (some (1, mn bt631.2.1 1, bt629.2)) else (if bt631.1 = 6 then (some (2, wrap64 (bt631.2.1 - 1), bt629.2)) else (some (1, 0, bt629.2))))) else (some (0, 2, bt629.2))))) = some (r1, r2, r3) := h
  clear h
  replace H := Option.bind_eq_some_iff.mp H
  obtain ⟨⟨t629, t630⟩, A30, H⟩ := H
  replace H : ((word_HeadOf.f t629).bind fun bt631 => (if bt631.2.2 = true then (if bt631.1 = 1 then (some (1, bt631.2.1, t630)) else (if bt631.1 = 5 then (some (1, mn bt631.2.1 1, t630)) else (if bt631.1 = 6 then (some (2, wrap64 (bt631.2.1 - 1), t630)) else (some (1, 0, t630))))) else (some (0, 2, t630)))) = some (r1, r2, r3) := H
  have A3 := Aside0.mk A30
  clear A30
  replace H := Option.bind_eq_some_iff.mp H
  obtain ⟨⟨t631, t632, t633⟩, A40, H⟩ := H
  replace H : (if t633 = true then (if t631 = 1 then (some (1, t632, t630)) else (if t631 = 5 then (some (1, mn t632 1, t630)) else (if t631 = 6 then (some (2, wrap64 (t632 - 1), t630)) else (some (1, 0, t630))))) else (some (0, 2, t630))) = some (r1, r2, r3) := H
  have A4 := Aside0.mk A40
  clear A40
  by_cases c5 : t633 = true
  · subst c5
    have H1 : (if t631 = 1 then (some (1, t632, t630)) else (if t631 = 5 then (some (1, mn t632 1, t630)) else (if t631 = 6 then (some (2, wrap64 (t632 - 1), t630)) else (some (1, 0, t630))))) = some (r1, r2, r3) := by rw [if_pos rfl] at H; exact H
    clear H
    have H := H1
    clear H1
    by_cases c6 : t631 = 1
    · rw [if_pos c6] at H
      have c6b0 : (t631 == 1) = true := beq_iff_eq.mpr c6
      have c6b1 : (t631 != 1) = false := bne_eq_false_iff_eq.mpr c6
      clear c6
      simp only [Option.some.injEq, Prod.mk.injEq] at H
      obtain ⟨rfl, rfl, rfl⟩ := H
      go_enter Try.func84, Try.ntmps84
      go_wp2_with (first | ((with_reducible refine gate_callee (f := 55) rfl ?_); refine goesL_ (some 12) rfl rfl Try.func55 (by kernel_rfl) rfl #[.pointer (some ⟨g, 0, none⟩), .int .i64 a1] rfl (by (try simp only [List.map_toArray, List.map_cons, List.map_nil]); first | done | rfl | (simp only [List.length_drop, List.length_take]; rfl)) ?_; (with_reducible refine (arena_Arena_Word.calls g s0_0 s0_1 a1 t629 t630 w0 _ ?side1 ?side2 A3.out).mono ?_); (case side1 => repeat (first | (with_reducible first | exact HI0.out | apply IsS118.alloc | apply IsS118.drewN | apply IsS118.drew | apply IsS118.set_1) | exact HI0.out)); (case side2 => repeat (first | (with_reducible first | exact HB.out | apply below_alloc | apply pw_below_drewN | apply below_drew1 | refine below_set ?_ (IsS118.ge HI0.out)) | exact HB.out)); rintro e w7 ⟨rfl, hi, hb, hk⟩; refine ⟨_, rfl, ?_⟩; have n0_ := Aside0.mk (KeepBut.trans (by repeat (first | (with_reducible first | exact HK.out | apply KeepBut.set_ | apply keep_drewN | apply keep_drew | apply keep_alloc) | exact HK.out)) hk (.inl rfl)); have n1_ := Aside0.mk (hb); have n2_ := Aside0.mk (hi); clear HK; clear HB; clear HI0; have HK := n0_; have HB := n1_; have HI0 := n2_; clear n0_ n1_ n2_; (try clear hb); (try clear hb2); (try clear hk); (try clear hi)) | ((with_reducible refine gate_callee (f := 96) rfl ?_); refine goesL_ (some 13) rfl rfl Try.func96 (by kernel_rfl) rfl #[.int .u64 t629] rfl (by (try simp only [List.map_toArray, List.map_cons, List.map_nil]); first | done | rfl | (simp only [List.length_drop, List.length_take]; rfl)) ?_; (with_reducible refine (word_HeadOf.calls t629 t631 t632 true _ A4.out).mono ?_); rintro e w' ⟨rfl, ⟨nd, rfl⟩⟩; refine ⟨_, rfl, ?_⟩))
      go_ret2
      exact ⟨by first | rfl | (simp [errW_none, errW_some] <;> rfl) | (simp [*, errW_none, errW_some] <;> rfl), by repeat (first | (with_reducible first | exact HI0.out | apply IsS118.alloc | apply IsS118.drewN | apply IsS118.drew | apply IsS118.set_1) | exact HI0.out), by repeat (first | (with_reducible first | exact HB.out | apply below_alloc | apply pw_below_drewN | apply below_drew1 | refine below_set ?_ (IsS118.ge HI0.out)) | exact HB.out), by repeat (first | (with_reducible first | exact HK.out | apply KeepBut.set_ | apply keep_drewN | apply keep_drew | apply keep_alloc) | exact HK.out)⟩
    · rw [if_neg c6] at H
      have c6b0 : (t631 == 1) = false := beq_eq_false_iff_ne.mpr c6
      have c6b1 : (t631 != 1) = true := bne_iff_ne.mpr c6
      by_cases c8 : t631 = 5
      · rw [if_pos c8] at H
        have c8b0 : (t631 == 5) = true := beq_iff_eq.mpr c8
        have c8b1 : (t631 != 5) = false := bne_eq_false_iff_eq.mpr c8
        clear c8
        obtain ⟨ji9, hji9⟩ : ∃ j_ : Int, (mn t632 1) = j_ := ⟨_, rfl⟩
        replace H : (some (1, ji9, t630)) = some (r1, r2, r3) := by first | (rw [hji9] at H; exact H) | (simp only [hji9] at H ⊢; exact H)
        (try rw [hji9] at A3)
        (try rw [hji9] at A4)
        (try (have hji9h : ji9 ≤ 1 := by (rw [← hji9]; unfold mn; (repeat' split) <;> omega)))
        (try (have hji9g : ji9 ≤ 64 := by omega))
        have hji9_ : (if 1 < t632 then 1 else t632) = ji9 := hji9
        simp only [Option.some.injEq, Prod.mk.injEq] at H
        obtain ⟨rfl, rfl, rfl⟩ := H
        go_enter Try.func84, Try.ntmps84
        go_wp2_with (first | ((with_reducible refine gate_callee (f := 55) rfl ?_); refine goesL_ (some 12) rfl rfl Try.func55 (by kernel_rfl) rfl #[.pointer (some ⟨g, 0, none⟩), .int .i64 a1] rfl (by (try simp only [List.map_toArray, List.map_cons, List.map_nil]); first | done | rfl | (simp only [List.length_drop, List.length_take]; rfl)) ?_; (with_reducible refine (arena_Arena_Word.calls g s0_0 s0_1 a1 t629 t630 w0 _ ?side1 ?side2 A3.out).mono ?_); (case side1 => repeat (first | (with_reducible first | exact HI0.out | apply IsS118.alloc | apply IsS118.drewN | apply IsS118.drew | apply IsS118.set_1) | exact HI0.out)); (case side2 => repeat (first | (with_reducible first | exact HB.out | apply below_alloc | apply pw_below_drewN | apply below_drew1 | refine below_set ?_ (IsS118.ge HI0.out)) | exact HB.out)); rintro e w10 ⟨rfl, hi, hb, hk⟩; refine ⟨_, rfl, ?_⟩; have n0_ := Aside0.mk (KeepBut.trans (by repeat (first | (with_reducible first | exact HK.out | apply KeepBut.set_ | apply keep_drewN | apply keep_drew | apply keep_alloc) | exact HK.out)) hk (.inl rfl)); have n1_ := Aside0.mk (hb); have n2_ := Aside0.mk (hi); clear HK; clear HB; clear HI0; have HK := n0_; have HB := n1_; have HI0 := n2_; clear n0_ n1_ n2_; (try clear hb); (try clear hb2); (try clear hk); (try clear hi)) | ((with_reducible refine gate_callee (f := 96) rfl ?_); refine goesL_ (some 13) rfl rfl Try.func96 (by kernel_rfl) rfl #[.int .u64 t629] rfl (by (try simp only [List.map_toArray, List.map_cons, List.map_nil]); first | done | rfl | (simp only [List.length_drop, List.length_take]; rfl)) ?_; (with_reducible refine (word_HeadOf.calls t629 t631 t632 true _ A4.out).mono ?_); rintro e w' ⟨rfl, ⟨nd, rfl⟩⟩; refine ⟨_, rfl, ?_⟩))
        go_ret2
        exact ⟨by first | rfl | (simp [errW_none, errW_some] <;> rfl) | (simp only [← hji9]; first | rfl | (simp [errW_none, errW_some] <;> rfl)) | (simp [*, errW_none, errW_some] <;> rfl), by repeat (first | (with_reducible first | exact HI0.out | apply IsS118.alloc | apply IsS118.drewN | apply IsS118.drew | apply IsS118.set_1) | exact HI0.out), by repeat (first | (with_reducible first | exact HB.out | apply below_alloc | apply pw_below_drewN | apply below_drew1 | refine below_set ?_ (IsS118.ge HI0.out)) | exact HB.out), by repeat (first | (with_reducible first | exact HK.out | apply KeepBut.set_ | apply keep_drewN | apply keep_drew | apply keep_alloc) | exact HK.out)⟩
      · rw [if_neg c8] at H
        have c8b0 : (t631 == 5) = false := beq_eq_false_iff_ne.mpr c8
        have c8b1 : (t631 != 5) = true := bne_iff_ne.mpr c8
        by_cases c11 : t631 = 6
        · rw [if_pos c11] at H
          have c11b0 : (t631 == 6) = true := beq_iff_eq.mpr c11
          have c11b1 : (t631 != 6) = false := bne_eq_false_iff_eq.mpr c11
          clear c11
          simp only [Option.some.injEq, Prod.mk.injEq] at H
          obtain ⟨rfl, rfl, rfl⟩ := H
          go_enter Try.func84, Try.ntmps84
          go_wp2_with (first | ((with_reducible refine gate_callee (f := 55) rfl ?_); refine goesL_ (some 12) rfl rfl Try.func55 (by kernel_rfl) rfl #[.pointer (some ⟨g, 0, none⟩), .int .i64 a1] rfl (by (try simp only [List.map_toArray, List.map_cons, List.map_nil]); first | done | rfl | (simp only [List.length_drop, List.length_take]; rfl)) ?_; (with_reducible refine (arena_Arena_Word.calls g s0_0 s0_1 a1 t629 t630 w0 _ ?side1 ?side2 A3.out).mono ?_); (case side1 => repeat (first | (with_reducible first | exact HI0.out | apply IsS118.alloc | apply IsS118.drewN | apply IsS118.drew | apply IsS118.set_1) | exact HI0.out)); (case side2 => repeat (first | (with_reducible first | exact HB.out | apply below_alloc | apply pw_below_drewN | apply below_drew1 | refine below_set ?_ (IsS118.ge HI0.out)) | exact HB.out)); rintro e w12 ⟨rfl, hi, hb, hk⟩; refine ⟨_, rfl, ?_⟩; have n0_ := Aside0.mk (KeepBut.trans (by repeat (first | (with_reducible first | exact HK.out | apply KeepBut.set_ | apply keep_drewN | apply keep_drew | apply keep_alloc) | exact HK.out)) hk (.inl rfl)); have n1_ := Aside0.mk (hb); have n2_ := Aside0.mk (hi); clear HK; clear HB; clear HI0; have HK := n0_; have HB := n1_; have HI0 := n2_; clear n0_ n1_ n2_; (try clear hb); (try clear hb2); (try clear hk); (try clear hi)) | ((with_reducible refine gate_callee (f := 96) rfl ?_); refine goesL_ (some 13) rfl rfl Try.func96 (by kernel_rfl) rfl #[.int .u64 t629] rfl (by (try simp only [List.map_toArray, List.map_cons, List.map_nil]); first | done | rfl | (simp only [List.length_drop, List.length_take]; rfl)) ?_; (with_reducible refine (word_HeadOf.calls t629 t631 t632 true _ A4.out).mono ?_); rintro e w' ⟨rfl, ⟨nd, rfl⟩⟩; refine ⟨_, rfl, ?_⟩))
          go_ret2
          exact ⟨by first | rfl | (simp [errW_none, errW_some] <;> rfl) | (simp [*, errW_none, errW_some] <;> rfl), by repeat (first | (with_reducible first | exact HI0.out | apply IsS118.alloc | apply IsS118.drewN | apply IsS118.drew | apply IsS118.set_1) | exact HI0.out), by repeat (first | (with_reducible first | exact HB.out | apply below_alloc | apply pw_below_drewN | apply below_drew1 | refine below_set ?_ (IsS118.ge HI0.out)) | exact HB.out), by repeat (first | (with_reducible first | exact HK.out | apply KeepBut.set_ | apply keep_drewN | apply keep_drew | apply keep_alloc) | exact HK.out)⟩
        · rw [if_neg c11] at H
          have c11b0 : (t631 == 6) = false := beq_eq_false_iff_ne.mpr c11
          have c11b1 : (t631 != 6) = true := bne_iff_ne.mpr c11
          simp only [Option.some.injEq, Prod.mk.injEq] at H
          obtain ⟨rfl, rfl, rfl⟩ := H
          go_enter Try.func84, Try.ntmps84
          go_wp2_with (first | ((with_reducible refine gate_callee (f := 55) rfl ?_); refine goesL_ (some 12) rfl rfl Try.func55 (by kernel_rfl) rfl #[.pointer (some ⟨g, 0, none⟩), .int .i64 a1] rfl (by (try simp only [List.map_toArray, List.map_cons, List.map_nil]); first | done | rfl | (simp only [List.length_drop, List.length_take]; rfl)) ?_; (with_reducible refine (arena_Arena_Word.calls g s0_0 s0_1 a1 t629 t630 w0 _ ?side1 ?side2 A3.out).mono ?_); (case side1 => repeat (first | (with_reducible first | exact HI0.out | apply IsS118.alloc | apply IsS118.drewN | apply IsS118.drew | apply IsS118.set_1) | exact HI0.out)); (case side2 => repeat (first | (with_reducible first | exact HB.out | apply below_alloc | apply pw_below_drewN | apply below_drew1 | refine below_set ?_ (IsS118.ge HI0.out)) | exact HB.out)); rintro e w13 ⟨rfl, hi, hb, hk⟩; refine ⟨_, rfl, ?_⟩; have n0_ := Aside0.mk (KeepBut.trans (by repeat (first | (with_reducible first | exact HK.out | apply KeepBut.set_ | apply keep_drewN | apply keep_drew | apply keep_alloc) | exact HK.out)) hk (.inl rfl)); have n1_ := Aside0.mk (hb); have n2_ := Aside0.mk (hi); clear HK; clear HB; clear HI0; have HK := n0_; have HB := n1_; have HI0 := n2_; clear n0_ n1_ n2_; (try clear hb); (try clear hb2); (try clear hk); (try clear hi)) | ((with_reducible refine gate_callee (f := 96) rfl ?_); refine goesL_ (some 13) rfl rfl Try.func96 (by kernel_rfl) rfl #[.int .u64 t629] rfl (by (try simp only [List.map_toArray, List.map_cons, List.map_nil]); first | done | rfl | (simp only [List.length_drop, List.length_take]; rfl)) ?_; (with_reducible refine (word_HeadOf.calls t629 t631 t632 true _ A4.out).mono ?_); rintro e w' ⟨rfl, ⟨nd, rfl⟩⟩; refine ⟨_, rfl, ?_⟩))
          go_ret2
          exact ⟨by first | rfl | (simp [errW_none, errW_some] <;> rfl) | (simp [*, errW_none, errW_some] <;> rfl), by repeat (first | (with_reducible first | exact HI0.out | apply IsS118.alloc | apply IsS118.drewN | apply IsS118.drew | apply IsS118.set_1) | exact HI0.out), by repeat (first | (with_reducible first | exact HB.out | apply below_alloc | apply pw_below_drewN | apply below_drew1 | refine below_set ?_ (IsS118.ge HI0.out)) | exact HB.out), by repeat (first | (with_reducible first | exact HK.out | apply KeepBut.set_ | apply keep_drewN | apply keep_drew | apply keep_alloc) | exact HK.out)⟩
  · replace c5 := Bool.eq_false_iff.mpr c5
    subst c5
    have H1 : (some (0, 2, t630)) = some (r1, r2, r3) := by rw [if_neg (show ¬ (false = true) by decide)] at H; exact H
    clear H
    have H := H1
    clear H1
    simp only [Option.some.injEq, Prod.mk.injEq] at H
    obtain ⟨rfl, rfl, rfl⟩ := H
    go_enter Try.func84, Try.ntmps84
    go_wp2_with (first | ((with_reducible refine gate_callee (f := 55) rfl ?_); refine goesL_ (some 12) rfl rfl Try.func55 (by kernel_rfl) rfl #[.pointer (some ⟨g, 0, none⟩), .int .i64 a1] rfl (by (try simp only [List.map_toArray, List.map_cons, List.map_nil]); first | done | rfl | (simp only [List.length_drop, List.length_take]; rfl)) ?_; (with_reducible refine (arena_Arena_Word.calls g s0_0 s0_1 a1 t629 t630 w0 _ ?side1 ?side2 A3.out).mono ?_); (case side1 => repeat (first | (with_reducible first | exact HI0.out | apply IsS118.alloc | apply IsS118.drewN | apply IsS118.drew | apply IsS118.set_1) | exact HI0.out)); (case side2 => repeat (first | (with_reducible first | exact HB.out | apply below_alloc | apply pw_below_drewN | apply below_drew1 | refine below_set ?_ (IsS118.ge HI0.out)) | exact HB.out)); rintro e w14 ⟨rfl, hi, hb, hk⟩; refine ⟨_, rfl, ?_⟩; have n0_ := Aside0.mk (KeepBut.trans (by repeat (first | (with_reducible first | exact HK.out | apply KeepBut.set_ | apply keep_drewN | apply keep_drew | apply keep_alloc) | exact HK.out)) hk (.inl rfl)); have n1_ := Aside0.mk (hb); have n2_ := Aside0.mk (hi); clear HK; clear HB; clear HI0; have HK := n0_; have HB := n1_; have HI0 := n2_; clear n0_ n1_ n2_; (try clear hb); (try clear hb2); (try clear hk); (try clear hi)) | ((with_reducible refine gate_callee (f := 96) rfl ?_); refine goesL_ (some 13) rfl rfl Try.func96 (by kernel_rfl) rfl #[.int .u64 t629] rfl (by (try simp only [List.map_toArray, List.map_cons, List.map_nil]); first | done | rfl | (simp only [List.length_drop, List.length_take]; rfl)) ?_; (with_reducible refine (word_HeadOf.calls t629 t631 t632 false _ A4.out).mono ?_); rintro e w' ⟨rfl, ⟨nd, rfl⟩⟩; refine ⟨_, rfl, ?_⟩))
    go_ret2
    exact ⟨by first | rfl | (simp [errW_none, errW_some] <;> rfl) | (simp [*, errW_none, errW_some] <;> rfl), by repeat (first | (with_reducible first | exact HI0.out | apply IsS118.alloc | apply IsS118.drewN | apply IsS118.drew | apply IsS118.set_1) | exact HI0.out), by repeat (first | (with_reducible first | exact HB.out | apply below_alloc | apply pw_below_drewN | apply below_drew1 | refine below_set ?_ (IsS118.ge HI0.out)) | exact HB.out), by repeat (first | (with_reducible first | exact HK.out | apply KeepBut.set_ | apply keep_drewN | apply keep_drew | apply keep_alloc) | exact HK.out)⟩

-- NOT PRINTED: function 34 (copying_Reach)

/-! ### copying_points: function 82 -/
def copying_points.f (a0 : Int) : Option (Bool) := (word_Tag.f a0).bind fun t634 => (if t634 = 1 then (some true) else ((word_Tag.f a0).bind fun t635 => (some (t635 == 2))))
set_option maxHeartbeats 8000000 in
set_option maxRecDepth 100000 in
theorem copying_points.calls (a0 : Int) (r : Bool) (w : World) (h : copying_points.f a0 = some r) :
    Calls Try.prog 82 #[.int .u64 a0] w fun e w' => e = .returned (.bool r) ∧ Drawn0 w w' := by
  have H : ((word_Tag.f a0).bind fun t634 => (if t634 = 1 then (some true) else ((word_Tag.f a0).bind fun t635 => (some (t635 == 2))))) = some r := h
  clear h
  replace H := Option.bind_eq_some_iff.mp H
  obtain ⟨t634, A20, H⟩ := H
  replace H : (if t634 = 1 then (some true) else ((word_Tag.f a0).bind fun t635 => (some (t635 == 2)))) = some r := H
  have A2 := Aside0.mk A20
  clear A20
  by_cases c3 : t634 = 1
  · rw [if_pos c3] at H
    have c3b0 : (t634 == 1) = true := beq_iff_eq.mpr c3
    have c3b1 : (t634 != 1) = false := bne_eq_false_iff_eq.mpr c3
    clear c3
    obtain rfl := Option.some.inj H
    go_enter Try.func82, Try.ntmps82
    go_wp2_with (first | ((with_reducible refine gate_callee (f := 97) rfl ?_); refine goesL_ (some 4) rfl rfl Try.func97 (by kernel_rfl) rfl #[.int .u64 a0] rfl (by (try simp only [List.map_toArray, List.map_cons, List.map_nil]); first | done | rfl | (simp only [List.length_drop, List.length_take]; rfl)) ?_; (with_reducible refine (word_Tag.calls a0 t634 _ A2.out).mono ?_); rintro e w' ⟨rfl, ⟨nd, rfl⟩⟩; refine ⟨_, rfl, ?_⟩))
    go_ret
    exact ⟨by first | rfl | (simp; done) | (simp [*]; done), by repeat (first | exact Drawn0.refl _ | apply Drawn0.step)⟩
  · rw [if_neg c3] at H
    have c3b0 : (t634 == 1) = false := beq_eq_false_iff_ne.mpr c3
    have c3b1 : (t634 != 1) = true := bne_iff_ne.mpr c3
    replace H := Option.bind_eq_some_iff.mp H
    obtain ⟨t635, A40, H⟩ := H
    replace H : (some (t635 == 2)) = some r := H
    have A4 := Aside0.mk A40
    clear A40
    obtain rfl := Option.some.inj H
    go_enter Try.func82, Try.ntmps82
    go_wp2_with (first | ((with_reducible refine gate_callee (f := 97) rfl ?_); refine goesL_ (some 4) rfl rfl Try.func97 (by kernel_rfl) rfl #[.int .u64 a0] rfl (by (try simp only [List.map_toArray, List.map_cons, List.map_nil]); first | done | rfl | (simp only [List.length_drop, List.length_take]; rfl)) ?_; (with_reducible refine (word_Tag.calls a0 t634 _ A2.out).mono ?_); rintro e w' ⟨rfl, ⟨nd, rfl⟩⟩; refine ⟨_, rfl, ?_⟩) | (go_at_call 97; (with_reducible refine (word_Tag.calls a0 t635 _ A4.out).mono ?_); rintro e w' ⟨rfl, ⟨nd, rfl⟩⟩))
    go_ret
    exact ⟨by first | rfl | (simp; done) | (simp [*]; done), by repeat (first | exact Drawn0.refl _ | apply Drawn0.step)⟩

-- NOT PRINTED: function 127 (copying_copier_tell)

-- NOT PRINTED: function 85 (copying_copier_move)

-- NOT PRINTED: function 35 (copying_Collect)

-- NOT PRINTED: function 31 (relictlaw13_awake)

-- NOT PRINTED: function 5 (relictlaw13_CopyingNone)

end Go.Proofs.Ytlifdpfhepamfaa.PHe
