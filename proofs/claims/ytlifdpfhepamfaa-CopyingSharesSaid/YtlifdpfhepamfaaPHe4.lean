-- Printed by the kit's print.py from a list of bodies that this session turned in four places; parts of it are this session's own.
import Derived.Test.YtlifdpfhepamfaaPHe0
import Derived.Test.YtlifdpfhepamfaaPHe1
namespace Go.Proofs.Ytlifdpfhepamfaa.PHe
open Go.RowKit Go.Proofs.YtlifdpfhepamfaaW.PrintWords Go.Proofs.YtlifdpfhepamfaaW.PrintLast Go.Proofs.YtlifdpfhepamfaaW.PrintMore
attribute [local go_sem] max2_int min2_int max_two min_two max_three min_three max_four min_four   -- for this text's walks alone
set_option linter.unusedVariables false
set_option linter.unusedSimpArgs false

/-! ### arena_Arena_Alloc: function 45 -/
def arena_Arena_Alloc.f (s0_0 : List Int) (s0_1 : Int) (a1 : Int) : Option (Int × Bool × Int) := if a1 < 0 then (some (0, false, s0_1)) else (if a1 > (wrap64 ((s0_0.length : Int) - s0_1)) then (some (0, false, s0_1)) else (some (wrap64 ((wrap64 (s0_1 + a1)) - a1), true, wrap64 (s0_1 + a1))))
set_option maxHeartbeats 8000000 in
set_option maxRecDepth 100000 in
theorem arena_Arena_Alloc.calls (g : Nat) (s0_0 : List Int) (s0_1 : Int) (a1 : Int) (r1 : Int) (r2 : Bool) (r3 : Int) (w0 w : World) (hI : IsS118 w0 w g s0_0 s0_1) (hB : Below w0.heap.size w0 w) (h : arena_Arena_Alloc.f s0_0 s0_1 a1 = some (r1, r2, r3)) :
    Calls Try.prog 45 #[.pointer (some ⟨g, 0, none⟩), .int .i64 a1] w fun e w' => e = .returned (.tuple #[.int .i64 r1, .bool r2]) ∧ IsS118 w0 w' g s0_0 r3 ∧ Below w0.heap.size w0 w' ∧ KeepBut w w' g none := by
  have HI0 := Aside0.mk hI
  have HK := Aside0.mk (KeepBut.refl w g none)
  have HL := Aside0.mk hB.size
  clear hI
  have HW0 := Aside0.mk hB.size
  have HB := Aside0.mk hB
  clear hB
  have H : (if a1 < 0 then (some (0, false, s0_1)) else (if a1 > (wrap64 ((s0_0.length : Int) - s0_1)) then (some (0, false, s0_1)) else (some (wrap64 ((wrap64 (s0_1 + a1)) - a1), true, wrap64 (s0_1 + a1))))) = some (r1, r2, r3) := h
  clear h
  by_cases c3 : a1 < 0
  · rw [if_pos c3] at H
    have c3b0 : decide (a1 < 0) = true := decide_eq_true c3
    clear c3
    simp only [Option.some.injEq, Prod.mk.injEq] at H
    obtain ⟨rfl, rfl, rfl⟩ := H
    go_enter Try.func45, Try.ntmps45
    go_wp2
    repeat (go_quiet (fail); try go_wp2)
    go_ret2
    exact ⟨by first | rfl | (simp [errW_none, errW_some] <;> rfl) | (simp [*, errW_none, errW_some] <;> rfl), by repeat (first | (with_reducible first | exact HI0.out | apply IsS118.alloc | apply IsS118.drewN | apply IsS118.drew | apply IsS118.set_1) | exact HI0.out), by repeat (first | (with_reducible first | exact HB.out | apply below_alloc | apply pw_below_drewN | apply below_drew1 | refine below_set ?_ (IsS118.ge HI0.out)) | exact HB.out), by repeat (first | (with_reducible first | exact HK.out | apply KeepBut.set_ | apply keep_drewN | apply keep_drew | apply keep_alloc) | exact HK.out)⟩
  · rw [if_neg c3] at H
    have c3b0 : decide (a1 < 0) = false := decide_eq_false c3
    clear c3
    by_cases c4 : a1 > (wrap64 ((s0_0.length : Int) - s0_1))
    · rw [if_pos c4] at H
      have c4b0 : decide ((wrap64 ((s0_0.length : Int) - s0_1)) < a1) = true := decide_eq_true c4
      clear c4
      simp only [Option.some.injEq, Prod.mk.injEq] at H
      obtain ⟨rfl, rfl, rfl⟩ := H
      obtain ⟨ASz5_0, cSz5_0, HGz5, hgz5, HSz5_0⟩ := HI0.out
      have hcz5_0 := cellS118_0 HGz5
      have hcz5_1 := cellS118_1 HGz5
      have hfz5_1 := blk_frozen HGz5 1
      clear HGz5 hgz5
      go_enter Try.func45, Try.ntmps45
      go_wp2
      repeat (go_quiet (fail); try go_wp2)
      go_ret2
      exact ⟨by first | rfl | (simp [errW_none, errW_some] <;> rfl) | (simp [*, errW_none, errW_some] <;> rfl), by repeat (first | (with_reducible first | exact HI0.out | apply IsS118.alloc | apply IsS118.drewN | apply IsS118.drew | apply IsS118.set_1) | exact HI0.out), by repeat (first | (with_reducible first | exact HB.out | apply below_alloc | apply pw_below_drewN | apply below_drew1 | refine below_set ?_ (IsS118.ge HI0.out)) | exact HB.out), by repeat (first | (with_reducible first | exact HK.out | apply KeepBut.set_ | apply keep_drewN | apply keep_drew | apply keep_alloc) | exact HK.out)⟩
    · rw [if_neg c4] at H
      have c4b0 : decide ((wrap64 ((s0_0.length : Int) - s0_1)) < a1) = false := decide_eq_false c4
      clear c4
      simp only [Option.some.injEq, Prod.mk.injEq] at H
      obtain ⟨rfl, rfl, rfl⟩ := H
      obtain ⟨ASz6_0, cSz6_0, HGz6, hgz6, HSz6_0⟩ := HI0.out
      have hcz6_0 := cellS118_0 HGz6
      have hcz6_1 := cellS118_1 HGz6
      have hfz6_1 := blk_frozen HGz6 1
      clear HGz6 hgz6
      go_enter Try.func45, Try.ntmps45
      go_wp2
      repeat (go_quiet (fail); try go_wp2)
      go_ret2
      exact ⟨by first | rfl | (simp [errW_none, errW_some] <;> rfl) | (simp [*, errW_none, errW_some] <;> rfl), by repeat (first | (with_reducible first | exact HI0.out | apply IsS118.alloc | apply IsS118.drewN | apply IsS118.drew | apply IsS118.set_1) | exact HI0.out), by repeat (first | (with_reducible first | exact HB.out | apply below_alloc | apply pw_below_drewN | apply below_drew1 | refine below_set ?_ (IsS118.ge HI0.out)) | exact HB.out), by repeat (first | (with_reducible first | exact HK.out | apply KeepBut.set_ | apply keep_drewN | apply keep_drew | apply keep_alloc) | exact HK.out)⟩

/-! ### arena_Arena_has: function 99 -/
def arena_Arena_has.f (s0_0 : List Int) (s0_1 : Int) (a1 : Int) : Option (Bool × Int) := if a1 ≥ 0 then (some (decide (a1 < s0_1), s0_1)) else (some (false, s0_1))
set_option maxHeartbeats 8000000 in
set_option maxRecDepth 100000 in
theorem arena_Arena_has.calls (g : Nat) (s0_0 : List Int) (s0_1 : Int) (a1 : Int) (r1 : Bool) (r2 : Int) (w0 w : World) (hI : IsS118 w0 w g s0_0 s0_1) (hB : Below w0.heap.size w0 w) (h : arena_Arena_has.f s0_0 s0_1 a1 = some (r1, r2)) :
    Calls Try.prog 99 #[.pointer (some ⟨g, 0, none⟩), .int .i64 a1] w fun e w' => e = .returned (.bool r1) ∧ IsS118 w0 w' g s0_0 r2 ∧ Below w0.heap.size w0 w' ∧ KeepBut w w' g none := by
  have HI0 := Aside0.mk hI
  have HK := Aside0.mk (KeepBut.refl w g none)
  have HL := Aside0.mk hB.size
  clear hI
  have HW0 := Aside0.mk hB.size
  have HB := Aside0.mk hB
  clear hB
  have H : (if a1 ≥ 0 then (some (decide (a1 < s0_1), s0_1)) else (some (false, s0_1))) = some (r1, r2) := h
  clear h
  by_cases c3 : a1 ≥ 0
  · rw [if_pos c3] at H
    have c3b0 : decide (0 ≤ a1) = true := decide_eq_true c3
    clear c3
    simp only [Option.some.injEq, Prod.mk.injEq] at H
    obtain ⟨rfl, rfl⟩ := H
    obtain ⟨ASz4_0, cSz4_0, HGz4, hgz4, HSz4_0⟩ := HI0.out
    have hcz4_0 := cellS118_0 HGz4
    have hcz4_1 := cellS118_1 HGz4
    have hfz4_1 := blk_frozen HGz4 1
    clear HGz4 hgz4
    go_enter Try.func99, Try.ntmps99
    go_wp2
    go_ret
    exact ⟨by first | rfl | (simp [errW_none, errW_some] <;> rfl) | (simp [*, errW_none, errW_some] <;> rfl), by repeat (first | (with_reducible first | exact HI0.out | apply IsS118.alloc | apply IsS118.drewN | apply IsS118.drew | apply IsS118.set_1) | exact HI0.out), by repeat (first | (with_reducible first | exact HB.out | apply below_alloc | apply pw_below_drewN | apply below_drew1 | refine below_set ?_ (IsS118.ge HI0.out)) | exact HB.out), by repeat (first | (with_reducible first | exact HK.out | apply KeepBut.set_ | apply keep_drewN | apply keep_drew | apply keep_alloc) | exact HK.out)⟩
  · rw [if_neg c3] at H
    have c3b0 : decide (0 ≤ a1) = false := decide_eq_false c3
    clear c3
    simp only [Option.some.injEq, Prod.mk.injEq] at H
    obtain ⟨rfl, rfl⟩ := H
    go_enter Try.func99, Try.ntmps99
    go_wp2
    go_ret
    exact ⟨by first | rfl | (simp [errW_none, errW_some] <;> rfl) | (simp [*, errW_none, errW_some] <;> rfl), by repeat (first | (with_reducible first | exact HI0.out | apply IsS118.alloc | apply IsS118.drewN | apply IsS118.drew | apply IsS118.set_1) | exact HI0.out), by repeat (first | (with_reducible first | exact HB.out | apply below_alloc | apply pw_below_drewN | apply below_drew1 | refine below_set ?_ (IsS118.ge HI0.out)) | exact HB.out), by repeat (first | (with_reducible first | exact HK.out | apply KeepBut.set_ | apply keep_drewN | apply keep_drew | apply keep_alloc) | exact HK.out)⟩

-- NOT PRINTED: function 46 (arena_Arena_Set)

/-! ### word_Pointer: function 128 -/
def word_Pointer.f (a0 : Int) (a1 : Int) : Option (Int) := (word_cut.f a1).bind fun t143 => (some (Go.bits .or .u64 (IntKind.u64.wrap (t143 * 4)) (IntKind.u64.wrap (Go.bits .and .i64 a0 3))))
set_option maxHeartbeats 8000000 in
set_option maxRecDepth 100000 in
theorem word_Pointer.calls (a0 : Int) (a1 : Int) (r : Int) (w : World) (h : word_Pointer.f a0 a1 = some r) :
    Calls Try.prog 128 #[.int .i64 a0, .int .i64 a1] w fun e w' => e = .returned (.int .u64 r) ∧ Below w.heap.size w w' := by
  have HB := Aside0.mk (Below.refl w.heap.size w)
  have H : ((word_cut.f a1).bind fun t143 => (some (Go.bits .or .u64 (IntKind.u64.wrap (t143 * 4)) (IntKind.u64.wrap (Go.bits .and .i64 a0 3))))) = some r := h
  clear h
  replace H := Option.bind_eq_some_iff.mp H
  obtain ⟨t143, A30, H⟩ := H
  replace H : (some (Go.bits .or .u64 (IntKind.u64.wrap (t143 * 4)) (IntKind.u64.wrap (Go.bits .and .i64 a0 3)))) = some r := H
  have A3 := Aside0.mk A30
  clear A30
  obtain rfl := Option.some.inj H
  go_enter Try.func128, Try.ntmps128
  go_wp2_with (first | ((with_reducible refine gate_callee (f := 114) rfl ?_); refine goesL_ (some 6) rfl rfl Try.func114 (by kernel_rfl) rfl #[.int .i64 a1] rfl (by (try simp only [List.map_toArray, List.map_cons, List.map_nil]); first | done | rfl | (simp only [List.length_drop, List.length_take]; rfl)) ?_; (with_reducible refine (word_cut.calls a1 t143 _ A3.out).mono ?_); rintro e w4 ⟨rfl, hb⟩; refine ⟨_, rfl, ?_⟩; have n0_ := Aside0.mk (below_step (by repeat (first | (with_reducible first | exact HB.out | apply below_alloc | apply pw_below_drewN | apply below_drew1) | exact HB.out)) hb); clear HB; have HB := n0_; clear n0_; (try clear hb); (try clear hb2); (try clear hk); (try clear hi)))
  go_ret
  exact ⟨by first | rfl | (simp [errW_none, errW_some] <;> rfl) | (simp [*, errW_none, errW_some] <;> rfl), by repeat (first | (with_reducible first | exact HB.out | apply below_alloc | apply pw_below_drewN | apply below_drew1) | exact HB.out)⟩

-- NOT PRINTED: function 116 (heap_Heap_object)

/-! ### word_Head: function 125 -/
def word_Head.f (a0 : Int) (a1 : Int) : Option (Int) := (word_cut.f a1).bind fun t144 => (some (Go.bits .or .u64 (IntKind.u64.wrap (t144 * 64)) (IntKind.u64.wrap ((IntKind.u64.wrap (Go.bits .and .i64 a0 15)) * 4))))
set_option maxHeartbeats 8000000 in
set_option maxRecDepth 100000 in
theorem word_Head.calls (a0 : Int) (a1 : Int) (r : Int) (w : World) (h : word_Head.f a0 a1 = some r) :
    Calls Try.prog 125 #[.int .i64 a0, .int .i64 a1] w fun e w' => e = .returned (.int .u64 r) ∧ Below w.heap.size w w' := by
  have HB := Aside0.mk (Below.refl w.heap.size w)
  have H : ((word_cut.f a1).bind fun t144 => (some (Go.bits .or .u64 (IntKind.u64.wrap (t144 * 64)) (IntKind.u64.wrap ((IntKind.u64.wrap (Go.bits .and .i64 a0 15)) * 4))))) = some r := h
  clear h
  replace H := Option.bind_eq_some_iff.mp H
  obtain ⟨t144, A30, H⟩ := H
  replace H : (some (Go.bits .or .u64 (IntKind.u64.wrap (t144 * 64)) (IntKind.u64.wrap ((IntKind.u64.wrap (Go.bits .and .i64 a0 15)) * 4)))) = some r := H
  have A3 := Aside0.mk A30
  clear A30
  obtain rfl := Option.some.inj H
  go_enter Try.func125, Try.ntmps125
  go_wp2_with (first | ((with_reducible refine gate_callee (f := 114) rfl ?_); refine goesL_ (some 6) rfl rfl Try.func114 (by kernel_rfl) rfl #[.int .i64 a1] rfl (by (try simp only [List.map_toArray, List.map_cons, List.map_nil]); first | done | rfl | (simp only [List.length_drop, List.length_take]; rfl)) ?_; (with_reducible refine (word_cut.calls a1 t144 _ A3.out).mono ?_); rintro e w4 ⟨rfl, hb⟩; refine ⟨_, rfl, ?_⟩; have n0_ := Aside0.mk (below_step (by repeat (first | (with_reducible first | exact HB.out | apply below_alloc | apply pw_below_drewN | apply below_drew1) | exact HB.out)) hb); clear HB; have HB := n0_; clear n0_; (try clear hb); (try clear hb2); (try clear hk); (try clear hi)))
  go_ret
  exact ⟨by first | rfl | (simp [errW_none, errW_some] <;> rfl) | (simp [*, errW_none, errW_some] <;> rfl), by repeat (first | (with_reducible first | exact HB.out | apply below_alloc | apply pw_below_drewN | apply below_drew1) | exact HB.out)⟩

-- NOT PRINTED: function 74 (heap_Heap_box)

-- NOT PRINTED: function 22 (heap_Heap_Number)

-- NOT PRINTED: function 28 (heap_Heap_Bytes)

-- NOT PRINTED: function 117 (heap_Heap_all)

-- NOT PRINTED: function 67 (heap_Heap_put)

-- NOT PRINTED: function 19 (heap_Heap_Put)

/-! ### relictref01_Norm: function 131 -/
def relictref01_Norm.f (k : Nat) (l0 : List Int) : Option (List Int) := if l0.length ≤ 1000 then some (l0.take (Go.Proofs.YtlifdpfhepamfaaLeaf.keepN l0 l0.length)) else none
theorem relictref01_Norm.mono : ∀ a0 k, LeO (relictref01_Norm.f k a0) (relictref01_Norm.f (k + 1) a0) := fun a0 k => by unfold relictref01_Norm.f; exact LeO.refl _
theorem relictref01_Norm.calls (k : Nat) (A0 : Option Addr) (c0 : Nat) (l0 : List Int) (r : List Int) (w : World) (hr0 : Kd.C (Kd.int .u32) w A0 l0.length l0) (hc0 : l0.length ≤ c0) (h : relictref01_Norm.f k l0 = some r) :
    Calls Try.prog 131 #[.slice A0 l0.length c0] w fun e w' => ∃ v0_ : Value, e = .returned (v0_) ∧ Kd.R (Kd.int .u32) 102 w' w.heap.size (fun _ => True) v0_ r ∧ Below w.heap.size w w' := by
  unfold relictref01_Norm.f at h
  split at h
  · injection h with h
    subst h
    exact Go.Proofs.YtlifdpfhepamfaaLeaf.rnorm_calls w A0 c0 l0 (Kd.reads_of_C (enc := Value.int .u32) (d := (0 : Int)) (h1 := fun _ => rfl) hr0) hc0 (by omega)
  · cases h

/-! ### relictref02_made: function 88 -/
/-! ### relictref02_Of: function 40 -/
open Go.Proofs.YtlifdpfhepamfaaMem Go.Proofs.YtlifdpfhepamfaaLeaf Go.Proofs.YtlifdpfhepamfaaBits in
set_option maxHeartbeats 4000000 in
set_option maxRecDepth 100000 in
theorem rmade_own (w : World) (A : Option Addr) (c : Nat) (xs ys : List Int) (hr : ReadsInt w .u32 A xs.length xs) (hc : xs.length ≤ c) (hm : xs.length ≤ 12) (hys : xs.take (keepN xs xs.length) = ys) :
    Calls Try.prog 88 #[.bool false, .slice A xs.length c] w fun e w' => ∃ v : Value, e = .returned (.tuple #[.agg #[.bool false, v], .bool true]) ∧ Kd.R (Kd.int .u32) 102 w' w.heap.size (fun k => k ≠ w.heap.size) v ys ∧ Below w.heap.size w w' := by
  have HC := Aside0.mk (rnorm_calls (w.alloc (.cells #[.bool false, .slice none 0 0] 41)) A c xs (hr.below (below_alloc (Below.refl _ w) _)) hc (by omega))
  rw [hys] at HC
  have hyl : ys.length ≤ 12 := by rw [← hys, List.length_take]; omega
  obtain ⟨n, hn⟩ : ∃ n, xs.length = n := ⟨_, rfl⟩
  rw [hn] at HC hc hm ⊢
  clear hr hn hys
  have hy2 : ¬ (ys.length : Int) > 12 := by omega
  go_enter Try.func88, Try.ntmps88
  go_wp2_with fail
  refine HC.out.mono ?_
  rintro e w1 ⟨v, rfl, hR, hb1⟩
  obtain ⟨A', c', rfl, hcc, hC⟩ := Kd.R_reads hR
  have HR1 := Aside0.mk hR
  have h4 : w1.heap[w.heap.size]? = some (.cells #[.bool false, .slice none 0 0] 41 (0, 0)) := (hb1.block _ (by simp)).trans (heap_alloc_new _ _)
  have H4 := Aside0.mk h4
  have HB1 := Aside0.mk (below_step (below_alloc (Below.refl _ w) _) hb1)
  obtain ⟨c40, c41, f40, f41⟩ := two_cells h4
  clear hR hb1 h4 HC hC
  go_wp2_with fail
  refine bodyPost_ret (results_ct rfl _ _ w.heap.size 41 #[.bool false, .slice A' ys.length c'] (0, 0) _ rfl (two_put H4.out) Try.underlying41 rfl (by kernel_rfl)) rfl ?_
  refine ⟨_, rfl, ?_, below_set (below_set HB1.out (Nat.le_refl _)) (Nat.le_refl _)⟩
  have q := Kd.R_types HR1.out H4.out (by decide)
  exact Kd.R_mono (Kd.R_lower (Kd.R_far (p := ⟨w.heap.size, 1, none⟩) (Kd.R_far (p := ⟨w.heap.size, 0, none⟩) q (fun _ hk => hk.2) _) (fun _ hk => hk.2) _) (by simp)) (fun _ hk => hk.2)
open Go.Proofs.YtlifdpfhepamfaaMem Go.Proofs.YtlifdpfhepamfaaLeaf Go.Proofs.YtlifdpfhepamfaaBits in
set_option maxHeartbeats 4000000 in
set_option maxRecDepth 100000 in
theorem rmade_neg (w : World) (A : Option Addr) (c : Nat) (xs ys : List Int) (hr : ReadsInt w .u32 A xs.length xs) (hc : xs.length ≤ c) (hm : xs.length ≤ 12) (hpos : 0 < ys.length) (hys : xs.take (keepN xs xs.length) = ys) :
    Calls Try.prog 88 #[.bool true, .slice A xs.length c] w fun e w' => ∃ v : Value, e = .returned (.tuple #[.agg #[.bool true, v], .bool true]) ∧ Kd.R (Kd.int .u32) 102 w' w.heap.size (fun k => k ≠ w.heap.size) v ys ∧ Below w.heap.size w w' := by
  have HC := Aside0.mk (rnorm_calls (w.alloc (.cells #[.bool false, .slice none 0 0] 41)) A c xs (hr.below (below_alloc (Below.refl _ w) _)) hc (by omega))
  rw [hys] at HC
  have hyl : ys.length ≤ 12 := by rw [← hys, List.length_take]; omega
  obtain ⟨n, hn⟩ : ∃ n, xs.length = n := ⟨_, rfl⟩
  rw [hn] at HC hc hm ⊢
  clear hr hn hys
  have hy2 : ¬ (ys.length : Int) > 12 := by omega
  have hy3 : (0 : Int) < (ys.length : Int) := by omega
  go_enter Try.func88, Try.ntmps88
  go_wp2_with fail
  refine HC.out.mono ?_
  rintro e w1 ⟨v, rfl, hR, hb1⟩
  obtain ⟨A', c', rfl, hcc, hC⟩ := Kd.R_reads hR
  have HR1 := Aside0.mk hR
  have h4 : w1.heap[w.heap.size]? = some (.cells #[.bool false, .slice none 0 0] 41 (0, 0)) := (hb1.block _ (by simp)).trans (heap_alloc_new _ _)
  have H4 := Aside0.mk h4
  have HB1 := Aside0.mk (below_step (below_alloc (Below.refl _ w) _) hb1)
  obtain ⟨c40, c41, f40, f41⟩ := two_cells h4
  clear hR hb1 h4 HC hC
  go_wp2_with fail
  refine bodyPost_ret (results_ct rfl _ _ w.heap.size 41 #[.bool true, .slice A' ys.length c'] (0, 0) _ rfl (two_put H4.out) Try.underlying41 rfl (by kernel_rfl)) rfl ?_
  refine ⟨_, rfl, ?_, below_set (below_set HB1.out (Nat.le_refl _)) (Nat.le_refl _)⟩
  have q := Kd.R_types HR1.out H4.out (by decide)
  exact Kd.R_mono (Kd.R_lower (Kd.R_far (p := ⟨w.heap.size, 1, none⟩) (Kd.R_far (p := ⟨w.heap.size, 0, none⟩) q (fun _ hk => hk.2) _) (fun _ hk => hk.2) _) (by simp)) (fun _ hk => hk.2)
open Go.Proofs.YtlifdpfhepamfaaMem Go.Proofs.YtlifdpfhepamfaaLeaf Go.Proofs.YtlifdpfhepamfaaBits in
set_option maxHeartbeats 4000000 in
set_option maxRecDepth 100000 in
theorem rof_own (w : World) (v : Int) (h0 : 0 ≤ v) (h1 : v < 9223372036854775808) :
    Calls Try.prog 40 #[.int .i64 v] w fun e w' => ∃ u : Value, e = .returned (.agg #[.bool false, u]) ∧ Kd.R (Kd.int .u32) 102 w' w.heap.size (fun _ => True) u (limbs v) ∧ Below w.heap.size w w' := by
  have e1 : IntKind.u64.wrap v = v := by rw [wrap_u64]; omega
  have e2 : ¬ v < 0 := by omega
  have e3 : IntKind.u32.wrap v = v % 4294967296 := by simp [IntKind.wrap, IntKind.bits, IntKind.signed]
  have e4 : IntKind.u32.wrap (v / 4294967296) = v / 4294967296 := by simp [IntKind.wrap, IntKind.bits, IntKind.signed]; omega
  have hl := limbs_of v h0
  obtain ⟨W1, hW1⟩ : ∃ W1, w.alloc (.cells #[.bool false, .slice none 0 0] 41) = W1 := ⟨_, rfl⟩
  have hs1 : W1.heap.size = w.heap.size + 1 := by rw [← hW1]; simp
  have hg4 : W1.heap[w.heap.size]? = some (.cells #[.bool false, .slice none 0 0] 41 (0, 0)) := by rw [← hW1]; exact heap_alloc_new _ _
  have hb1 : Below w.heap.size w W1 := by rw [← hW1]; exact below_alloc (Below.refl _ _) _
  have C := rmade_own (W1.alloc (.cells (nums .u32 [v % 4294967296, v / 4294967296]).toArray 102)) (some ⟨W1.heap.size, 0, none⟩) 2 [v % 4294967296, v / 4294967296] (limbs v) (reads_blk (heap_alloc_new _ _) 2 (by simp) (by omega)) (by simp) (by simp) hl.1
  rw [show [v % 4294967296, v / 4294967296].length = 2 from rfl, hs1] at C
  rw [← hW1] at C hb1 hg4
  have HC := Aside0.mk C
  have HB1 := Aside0.mk hb1
  have HG4 := Aside0.mk hg4
  obtain ⟨L, hL⟩ : ∃ L, limbs v = L := ⟨_, rfl⟩
  rw [hL] at HC ⊢
  clear hl C hb1 hg4 hW1 hs1 hL
  go_enter Try.func40, Try.ntmps40
  go_wp2_with fail
  refine HC.out.mono ?_
  rintro e w1 ⟨u, rfl, hR, hb1⟩
  obtain ⟨A', c', rfl⟩ := Kd.R_slice hR
  have HR1 := Aside0.mk hR
  have h4 := (hb1.block w.heap.size (by simp; omega)).trans (blk_alloc HG4.out _)
  have HB := Aside0.mk (below_step (below_alloc HB1.out _) hb1)
  have hh4 := blk_alloc h4 (.cells #[.bool false, .slice A' L.length c'] 41)
  obtain ⟨c20, c21, f20, f21⟩ := two_cells hh4
  have H4 := Aside0.mk h4
  clear hR hb1 HC HG4 h4 hh4
  go_wp2_with fail
  have hh := blk_alloc H4.out (.cells #[.bool false, .slice A' L.length c'] 41)
  refine bodyPost_ret (results_cell_row rfl _ _ w.heap.size 41 #[.bool false, .slice A' L.length c'] (0, 0) _ rfl (two_put hh) Try.underlying41 rfl (by kernel_rfl)) rfl ?_
  refine ⟨_, rfl, ?_, below_set (below_set (below_alloc HB.out _) (Nat.le_refl _)) (Nat.le_refl _)⟩
  have q := Kd.R_types (Kd.R_alloc HR1.out (.cells #[.bool false, .slice A' L.length c'] 41)) hh (by decide)
  exact Kd.R_mono (Kd.R_lower (Kd.R_far (p := ⟨w.heap.size, 1, none⟩) (Kd.R_far (p := ⟨w.heap.size, 0, none⟩) q (fun _ hk => hk.2) _) (fun _ hk => hk.2) _) (by simp; omega)) (fun _ _ => trivial)
open Go.Proofs.YtlifdpfhepamfaaMem Go.Proofs.YtlifdpfhepamfaaLeaf Go.Proofs.YtlifdpfhepamfaaBits in
set_option maxHeartbeats 4000000 in
set_option maxRecDepth 100000 in
theorem rof_neg (w : World) (v : Int) (h0 : -9223372036854775808 ≤ v) (h1 : v < 0) :
    Calls Try.prog 40 #[.int .i64 v] w fun e w' => ∃ u : Value, e = .returned (.agg #[.bool true, u]) ∧ Kd.R (Kd.int .u32) 102 w' w.heap.size (fun _ => True) u (limbs (-v)) ∧ Below w.heap.size w w' := by
  obtain ⟨U, hU⟩ : ∃ U, 18446744073709551616 + v = U := ⟨_, rfl⟩
  obtain ⟨x, hx⟩ : ∃ x, -v = x := ⟨_, rfl⟩
  have e1 : IntKind.u64.wrap v = U := by rw [wrap_u64]; omega
  have e0 : IntKind.u64.wrap (-U) = x := by rw [wrap_u64]; omega
  have e0' : IntKind.u64.wrap x = x := by rw [wrap_u64]; omega
  have e2 : v < 0 := h1
  have hx0 : 0 < x ∧ x < 18446744073709551616 := by omega
  rw [hx]
  have e3 : IntKind.u32.wrap x = x % 4294967296 := by simp [IntKind.wrap, IntKind.bits, IntKind.signed]
  have e4 : IntKind.u32.wrap (x / 4294967296) = x / 4294967296 := by simp [IntKind.wrap, IntKind.bits, IntKind.signed]; omega
  have hl := limbs_of x (by omega)
  obtain ⟨W1, hW1⟩ : ∃ W1, w.alloc (.cells #[.bool false, .slice none 0 0] 41) = W1 := ⟨_, rfl⟩
  have hs1 : W1.heap.size = w.heap.size + 1 := by rw [← hW1]; simp
  have hg4 : W1.heap[w.heap.size]? = some (.cells #[.bool false, .slice none 0 0] 41 (0, 0)) := by rw [← hW1]; exact heap_alloc_new _ _
  have hb1 : Below w.heap.size w W1 := by rw [← hW1]; exact below_alloc (Below.refl _ _) _
  have C := rmade_neg (W1.alloc (.cells (nums .u32 [x % 4294967296, x / 4294967296]).toArray 102)) (some ⟨W1.heap.size, 0, none⟩) 2 [x % 4294967296, x / 4294967296] (limbs x) (reads_blk (heap_alloc_new _ _) 2 (by simp) (by omega)) (by simp) (by simp) (by unfold limbs; rw [if_neg (by omega)]; split <;> simp) hl.1
  rw [show [x % 4294967296, x / 4294967296].length = 2 from rfl, hs1] at C
  rw [← hW1] at C hb1 hg4
  have HC := Aside0.mk C
  have HB1 := Aside0.mk hb1
  have HG4 := Aside0.mk hg4
  obtain ⟨L, hL⟩ : ∃ L, limbs x = L := ⟨_, rfl⟩
  rw [hL] at HC ⊢
  clear hl C hb1 hg4 hW1 hs1 hL hU hx
  go_enter Try.func40, Try.ntmps40
  go_wp2_with fail
  refine HC.out.mono ?_
  rintro e w1 ⟨u, rfl, hR, hb1⟩
  obtain ⟨A', c', rfl⟩ := Kd.R_slice hR
  have HR1 := Aside0.mk hR
  have h4 := (hb1.block w.heap.size (by simp; omega)).trans (blk_alloc HG4.out _)
  have HB := Aside0.mk (below_step (below_alloc HB1.out _) hb1)
  have hh4 := blk_alloc h4 (.cells #[.bool true, .slice A' L.length c'] 41)
  obtain ⟨c20, c21, f20, f21⟩ := two_cells hh4
  have H4 := Aside0.mk h4
  clear hR hb1 HC HG4 h4 hh4
  go_wp2_with fail
  have hh := blk_alloc H4.out (.cells #[.bool true, .slice A' L.length c'] 41)
  refine bodyPost_ret (results_cell_row rfl _ _ w.heap.size 41 #[.bool true, .slice A' L.length c'] (0, 0) _ rfl (two_put hh) Try.underlying41 rfl (by kernel_rfl)) rfl ?_
  refine ⟨_, rfl, ?_, below_set (below_set (below_alloc HB.out _) (Nat.le_refl _)) (Nat.le_refl _)⟩
  have q := Kd.R_types (Kd.R_alloc HR1.out (.cells #[.bool true, .slice A' L.length c'] 41)) hh (by decide)
  exact Kd.R_mono (Kd.R_lower (Kd.R_far (p := ⟨w.heap.size, 1, none⟩) (Kd.R_far (p := ⟨w.heap.size, 0, none⟩) q (fun _ hk => hk.2) _) (fun _ hk => hk.2) _) (by simp; omega)) (fun _ _ => trivial)
def relictref02_Of.f (k : Nat) (a0 : Int) : Option (Bool × List Int) := if -9223372036854775808 ≤ a0 ∧ a0 < 9223372036854775808 then some (decide (a0 < 0), Go.Proofs.YtlifdpfhepamfaaLeaf.limbs (if a0 < 0 then -a0 else a0)) else none
theorem relictref02_Of.mono : ∀ a0 k, LeO (relictref02_Of.f k a0) (relictref02_Of.f (k + 1) a0) := fun a0 k => by unfold relictref02_Of.f; exact LeO.refl _
theorem relictref02_Of.calls (k : Nat) (a0 : Int) (r1 : Bool) (r2 : List Int) (w : World) (h : relictref02_Of.f k a0 = some (r1, r2)) :
    Calls Try.prog 40 #[.int .i64 a0] w fun e w' => ∃ v1_ : Value, e = .returned (.agg #[.bool r1, v1_]) ∧ Kd.R (Kd.int .u32) 102 w' w.heap.size (fun _ => True) v1_ r2 ∧ Below w.heap.size w w' := by
  unfold relictref02_Of.f at h
  split at h
  · rename_i hb
    simp only [Option.some.injEq, Prod.mk.injEq] at h
    obtain ⟨rfl, rfl⟩ := h
    by_cases hn : a0 < 0
    · rw [if_pos hn, decide_eq_true hn]
      exact rof_neg w a0 hb.1 hn
    · rw [if_neg hn, decide_eq_false hn]
      exact rof_own w a0 (by omega) hb.2
  · cases h

/-! ### relictref19_Int: function 78 -/
def relictref19_Int.f (k : Nat) (a0 : Int) : Option (Int × Bool × List Int × ByteArray × Int × (List (S43))) := (relictref02_Of.f k a0).bind fun bt176 => (some (1, bt176.1, bt176.2, (⟨#[]⟩ : ByteArray), 0, ([] : List (S43))))
theorem relictref19_Int.mono : ∀ a0 k, LeO (relictref19_Int.f k a0) (relictref19_Int.f (k + 1) a0) := by
  intro a0 k
  unfold relictref19_Int.f
  repeat' first
      | (with_reducible exact relictref02_Of.mono _ _)
      | (with_reducible exact LeO.refl _)
      | (with_reducible exact LeO.none _)
      | (with_reducible refine LeO.ite ?_ ?_)
      | (with_reducible refine LeO.bind ?_ (fun _ => ?_))
      | exact relictref02_Of.mono _ _
      | exact LeO.none _
      | refine LeO.ite ?_ ?_
      | refine LeO.bind ?_ (fun _ => ?_)
set_option maxHeartbeats 8000000 in
set_option maxRecDepth 100000 in
theorem relictref19_Int.calls (k : Nat) (a0 : Int) (r1 : Int) (r2 : Bool) (r3 : List Int) (r4 : ByteArray) (r5 : Int) (r6 : List (S43)) (w : World) (h : relictref19_Int.f k a0 = some (r1, r2, r3, r4, r5, r6)) :
    Calls Try.prog 78 #[.int .i64 a0] w fun e w' => ∃ v2_ v5_ : Value, e = .returned (.agg #[.int .i64 r1, .bool r2, v2_, .string r4, .int .i64 r5, v5_]) ∧ Kd.R (Kd.int .u32) 102 w' w.heap.size (fun _ => True) v2_ r3 ∧ Kd.R k43 43 w' w.heap.size (fun k_ => some k_ ≠ (v2_ : Value).ownBlock) v5_ r6 ∧ Below w.heap.size w w' := by
  have hu43 := Try.underlying43
  have HB := Aside0.mk (Below.refl w.heap.size w)
  have H : ((relictref02_Of.f k a0).bind fun bt176 => (some (1, bt176.1, bt176.2, (⟨#[]⟩ : ByteArray), 0, ([] : List (S43))))) = some (r1, r2, r3, r4, r5, r6) := h
  clear h
  replace H := Option.bind_eq_some_iff.mp H
  obtain ⟨⟨t176, t177⟩, A20, H⟩ := H
  replace H : (some (1, t176, t177, (⟨#[]⟩ : ByteArray), 0, ([] : List (S43)))) = some (r1, r2, r3, r4, r5, r6) := H
  have A2 := Aside0.mk A20
  clear A20
  simp only [Option.some.injEq, Prod.mk.injEq] at H
  obtain ⟨rfl, rfl, rfl, rfl, rfl, rfl⟩ := H
  go_enter Try.func78, Try.ntmps78
  go_wp2_with (first | ((with_reducible refine gate_dst (N := 2) rfl ?_); refine box_event ?hg (N := 2) ?hd (cs := #[.int .i64 0, .bool false, .slice none 0 0, .string (⟨#[]⟩ : ByteArray), .int .i64 0, .slice none 0 0]) (t := 43) ?hr ?_; (case hd => rfl); (case hg => rfl); (case hr => first | (go_simp; done) | (go_simp; rfl)); intro gb175 hg w3 hbox hb; have n0_ := Aside0.mk (below_step (by repeat (first | (with_reducible first | exact HB.out | apply below_alloc | apply pw_below_drewN | apply below_drew1) | exact HB.out)) hb); have n1_ := Aside0.mk (hbox); have n2_ := Aside0.mk ((by rw [hg]; exact (below_size (by repeat (first | (with_reducible first | exact HB.out | apply below_alloc | apply pw_below_drewN | apply below_drew1) | exact HB.out))) : w.heap.size ≤ gb175)); have n3_ := Aside0.mk ((by rw [hg]; exact (below_size (by repeat (first | (with_reducible first | exact HB.out | apply below_alloc | apply pw_below_drewN | apply below_drew1) | exact HB.out))) : w.heap.size ≤ gb175)); clear HB; have HB := n0_; have BK175 := n1_; have GW175 := n2_; have GE175 := n3_; clear n0_ n1_ n2_ n3_; clear hb hbox hg) | ((with_reducible refine gate_callee (f := 40) rfl ?_); refine goesL_ (some 4) rfl rfl Try.func40 (by kernel_rfl) rfl #[.int .i64 a0] rfl (by (try simp only [List.map_toArray, List.map_cons, List.map_nil]); first | done | rfl | (simp only [List.length_drop, List.length_take]; rfl)) ?_; (with_reducible refine (relictref02_Of.calls k a0 t176 t177 _ A2.out).mono ?_); rintro e w4 ⟨v178, rfl, ho0, hb⟩; refine ⟨_, rfl, ?_⟩; have n0_ := Aside0.mk (Kd.R_lower ho0 (below_size (by repeat (first | (with_reducible first | exact HB.out | apply below_alloc | apply pw_below_drewN | apply below_drew1 | refine below_set ?_ GE175.out) | exact HB.out)))); have n1_ := Aside0.mk (blk_below (g := gb175) (o := .cells #[.int .i64 0, .bool false, .slice none 0 0, .string (⟨#[]⟩ : ByteArray), .int .i64 0, .slice none 0 0] 43 (0, 0)) (by (with_reducible repeat (first | refine blk_drewN ?_ _ | refine blk_drew ?_ | refine blk_alloc ?_ _)); exact BK175.out) hb); have n2_ := Aside0.mk (below_step (by repeat (first | (with_reducible first | exact HB.out | apply below_alloc | apply pw_below_drewN | apply below_drew1 | refine below_set ?_ GE175.out) | exact HB.out)) hb); clear BK175; clear HB; have HO179 := n0_; have BK175 := n1_; have HB := n2_; clear n0_ n1_ n2_; (try clear hb); (try clear hb2); (try clear hk); (try clear hi); (try clear ho0); obtain ⟨Ao5, co5, eo5⟩ := Kd.R_slice HO179.out; subst eo5; have hcz6_0 : w4.cell? ⟨gb175, 0, none⟩ = some (.int .i64 0) := (blk_cell BK175.out 0).trans rfl; have hcz6_1 : w4.cell? ⟨gb175, 1, none⟩ = some (.bool false) := (blk_cell BK175.out 1).trans rfl; have hcz6_2 : w4.cell? ⟨gb175, 2, none⟩ = some (.slice none 0 0) := (blk_cell BK175.out 2).trans rfl; have hcz6_3 : w4.cell? ⟨gb175, 3, none⟩ = some (.string (⟨#[]⟩ : ByteArray)) := (blk_cell BK175.out 3).trans rfl; have hcz6_4 : w4.cell? ⟨gb175, 4, none⟩ = some (.int .i64 0) := (blk_cell BK175.out 4).trans rfl; have hcz6_5 : w4.cell? ⟨gb175, 5, none⟩ = some (.slice none 0 0) := (blk_cell BK175.out 5).trans rfl; have hfz6_0 := blk_frozen BK175.out 0; have hfz6_1 := blk_frozen BK175.out 1; have hfz6_2 := blk_frozen BK175.out 2; have hfz6_3 := blk_frozen BK175.out 3; have hfz6_4 := blk_frozen BK175.out 4; have hfz6_5 := blk_frozen BK175.out 5))
  refine bodyPost_ret (results_cell_row rfl _ _ gb175 43 #[.int .i64 1, .bool t176, .slice Ao5 t177.length co5, .string (⟨#[]⟩ : ByteArray), .int .i64 0, .slice none 0 0] (0, 0) _ rfl (by (with_reducible repeat (first | refine blk_drewN ?_ _ | refine blk_drew ?_ | refine blk_alloc ?_ _)); refine blk_put (cs := #[.int .i64 1, .bool t176, .slice Ao5 t177.length co5, .string (⟨#[]⟩ : ByteArray), .int .i64 0, .slice none 0 0]) ?_ 5 _ rfl; (with_reducible repeat (first | refine blk_drewN ?_ _ | refine blk_drew ?_ | refine blk_alloc ?_ _)); refine blk_put (cs := #[.int .i64 1, .bool t176, .slice Ao5 t177.length co5, .string (⟨#[]⟩ : ByteArray), .int .i64 0, .slice none 0 0]) ?_ 4 _ rfl; (with_reducible repeat (first | refine blk_drewN ?_ _ | refine blk_drew ?_ | refine blk_alloc ?_ _)); refine blk_put (cs := #[.int .i64 1, .bool t176, .slice Ao5 t177.length co5, .string (⟨#[]⟩ : ByteArray), .int .i64 0, .slice none 0 0]) ?_ 3 _ rfl; (with_reducible repeat (first | refine blk_drewN ?_ _ | refine blk_drew ?_ | refine blk_alloc ?_ _)); refine blk_put (cs := #[.int .i64 1, .bool t176, .slice none 0 0, .string (⟨#[]⟩ : ByteArray), .int .i64 0, .slice none 0 0]) ?_ 2 _ rfl; (with_reducible repeat (first | refine blk_drewN ?_ _ | refine blk_drew ?_ | refine blk_alloc ?_ _)); refine blk_put (cs := #[.int .i64 1, .bool false, .slice none 0 0, .string (⟨#[]⟩ : ByteArray), .int .i64 0, .slice none 0 0]) ?_ 1 _ rfl; (with_reducible repeat (first | refine blk_drewN ?_ _ | refine blk_drew ?_ | refine blk_alloc ?_ _)); refine blk_put (cs := #[.int .i64 0, .bool false, .slice none 0 0, .string (⟨#[]⟩ : ByteArray), .int .i64 0, .slice none 0 0]) ?_ 0 _ rfl; (with_reducible repeat (first | refine blk_drewN ?_ _ | refine blk_drew ?_ | refine blk_alloc ?_ _)); exact BK175.out) Try.underlying43 rfl (by kernel_rfl)) rfl ?_
  exact ⟨_, _, by first | rfl | (simp [errW_none, errW_some] <;> rfl) | (simp [*, errW_none, errW_some] <;> rfl), by (with_reducible repeat (first | apply Kd.R_alloc | apply Kd.R_drewN | apply Kd.R_drew)); exact Kd.R_mono (Kd.R_far (p := ⟨gb175, 5, none⟩) (Kd.R_far (p := ⟨gb175, 4, none⟩) (Kd.R_far (p := ⟨gb175, 3, none⟩) (Kd.R_far (p := ⟨gb175, 2, none⟩) (Kd.R_far (p := ⟨gb175, 1, none⟩) (Kd.R_far (p := ⟨gb175, 0, none⟩) (Kd.R_types HO179.out BK175.out (by decide)) (fun _ hk => hk.2) (.int .i64 1)) (fun _ hk => hk.2) (.bool t176)) (fun _ hk => hk.2) (.slice Ao5 t177.length co5)) (fun _ hk => hk.2) (.string (⟨#[]⟩ : ByteArray))) (fun _ hk => hk.2) (.int .i64 0)) (fun _ hk => hk.2) (.slice none 0 0)) (fun _ hk => trivial), by first | exact Kd.R_nil _ _ _ _ _ | exact Kd.N_nil _ _ _ _ _ | exact Kd.V_nil _ _ _ _ _ | exact Kd.Q_nil _ _ _ _ _ | exact Kd.S_nil _ _ _ _ _, by repeat (first | (with_reducible first | exact HB.out | apply below_alloc | apply pw_below_drewN | apply below_drew1 | refine below_set ?_ GE175.out) | exact HB.out)⟩

/-! ### relictref03_List: function 79 -/
def relictref03_List.l0 : Nat → List (S43) → Int → Int → Bool → List Int → ByteArray → Int → List (S43) → Option (Int × Bool × List Int × ByteArray × Int × (List (S43)))
  | 0, _, _, _, _, _, _, _, _ => none
  | k + 1, x0, x6, x183000, x183001, x183002, x183003, x183004, x183005 => if x6 ≥ 0 then (if 0 ≤ x6 then (if x6 < (x0.length : Int) then (relictref03_List.l0 k x0 (wrap64 (x6 - 1)) 4 false ([] : List Int) (⟨#[]⟩ : ByteArray) 0 (([(⟨(rd_T43 x0 x6).f0, (⟨(rd_T43 x0 x6).f1.f0, (rd_T43 x0 x6).f1.f1⟩ : S41), (rd_T43 x0 x6).f2, (rd_T43 x0 x6).f3, (rd_T43 x0 x6).f4⟩ : S43), (⟨x183000, (⟨x183001, x183002⟩ : S41), x183003, x183004, x183005⟩ : S43)] : List (S43)))) else (none)) else (none)) else (some (x183000, x183001, x183002, x183003, x183004, x183005))
def relictref03_List.f (k : Nat) (l0 : List (S43)) (a1_0 : Int) (a1_1 : Bool) (l1_2 : List Int) (a1_3 : ByteArray) (a1_4 : Int) (l1_5 : List (S43)) : Option (Int × Bool × List Int × ByteArray × Int × (List (S43))) := relictref03_List.l0 k l0 (wrap64 ((l0.length : Int) - 1)) a1_0 a1_1 l1_2 a1_3 a1_4 l1_5
theorem relictref03_List.mono_l : ∀ k, (∀ y0 y1 y2 y3 y4 y5 y6 y7, LeO (relictref03_List.l0 k y0 y1 y2 y3 y4 y5 y6 y7) (relictref03_List.l0 (k + 1) y0 y1 y2 y3 y4 y5 y6 y7))
  | 0 => fun _ _ _ _ _ _ _ _ r h => by simp [relictref03_List.l0] at h
  | k + 1 => by
    have ih0 := relictref03_List.mono_l k
    · intro y0 y1 y2 y3 y4 y5 y6 y7
      unfold relictref03_List.l0
      repeat' first
      | (with_reducible exact ih0 _ _ _ _ _ _ _ _)
      | (with_reducible exact LeO.refl _)
      | (with_reducible exact LeO.none _)
      | (with_reducible refine LeO.ite ?_ ?_)
      | (with_reducible refine LeO.bind ?_ (fun _ => ?_))
      | exact ih0 _ _ _ _ _ _ _ _
      | exact LeO.none _
      | refine LeO.ite ?_ ?_
      | refine LeO.bind ?_ (fun _ => ?_)
theorem relictref03_List.mono : ∀ a0 a1 a2 a3 a4 a5 a6 k, LeO (relictref03_List.f k a0 a1 a2 a3 a4 a5 a6) (relictref03_List.f (k + 1) a0 a1 a2 a3 a4 a5 a6) := by
  intro a0 a1 a2 a3 a4 a5 a6 k
  have ih0 := relictref03_List.mono_l k
  unfold relictref03_List.f
  repeat' first
      | (with_reducible exact ih0 _ _ _ _ _ _ _ _)
      | (with_reducible exact LeO.refl _)
      | (with_reducible exact LeO.none _)
      | (with_reducible refine LeO.ite ?_ ?_)
      | (with_reducible refine LeO.bind ?_ (fun _ => ?_))
      | exact ih0 _ _ _ _ _ _ _ _
      | exact LeO.none _
      | refine LeO.ite ?_ ?_
      | refine LeO.bind ?_ (fun _ => ?_)
def relictref03_List.T5 : Bool × List (List Nat × List Nat) := (true, [([], []), ([], []), ([0, 1], [0, 1]), ([2], [2]), ([], []), ([3, 4], [3, 4]), ([5], [5]), ([6, 0, 1, 2, 3, 4, 5, 6], [6])])
def relictref03_List.B5 : List Nat := [0, 0, 3, 7, 0, 31, 63, 127]
theorem relictref03_List.tab5 : rtab .any (opsOf Try.f79 5) = relictref03_List.T5 := by kernel_rfl
theorem relictref03_List.bits5 : waitsOk relictref03_List.T5.2 relictref03_List.B5 = true := by kernel_rfl
set_option maxHeartbeats 8000000 in
set_option maxRecDepth 100000 in
theorem relictref03_List.calls (k : Nat) (P0_ : Nat → Prop) (A0 : Option Addr) (c0 : Nat) (l0 : List (S43)) (a1_0 : Int) (a1_1 : Bool) (P1_2_ : Nat → Prop) (A1_2 : Option Addr) (c1_2 : Nat) (l1_2 : List Int) (a1_3 : ByteArray) (a1_4 : Int) (P1_5_ : Nat → Prop) (A1_5 : Option Addr) (c1_5 : Nat) (l1_5 : List (S43)) (r1 : Int) (r2 : Bool) (r3 : List Int) (r4 : ByteArray) (r5 : Int) (r6 : List (S43)) (w : World) (hs0 : Kd.V k43 43 w w.heap.size (fun k_ => P0_ k_) (.slice A0 l0.length c0) l0) (hs1_2 : Kd.V (Kd.int .u32) 102 w w.heap.size (fun k_ => P1_2_ k_) (.slice A1_2 l1_2.length c1_2) l1_2) (hs1_5 : Kd.V k43 43 w w.heap.size (fun k_ => P1_5_ k_) (.slice A1_5 l1_5.length c1_5) l1_5) (h : relictref03_List.f k l0 a1_0 a1_1 l1_2 a1_3 a1_4 l1_5 = some (r1, r2, r3, r4, r5, r6)) :
    Calls Try.prog 79 #[.slice A0 l0.length c0, .agg #[.int .i64 a1_0, .bool a1_1, .slice A1_2 l1_2.length c1_2, .string a1_3, .int .i64 a1_4, .slice A1_5 l1_5.length c1_5]] w fun e w' => ∃ v2_ v5_ : Value, e = .returned (.agg #[.int .i64 r1, .bool r2, v2_, .string r4, .int .i64 r5, v5_]) ∧ Kd.V (Kd.int .u32) 102 w' w.heap.size (fun k_ => ((P0_ k_ ∨ P1_2_ k_ ∨ P1_5_ k_) ∨ w.heap.size ≤ k_)) v2_ r3 ∧ Kd.V k43 43 w' w.heap.size (fun k_ => ((P0_ k_ ∨ P1_2_ k_ ∨ P1_5_ k_) ∨ w.heap.size ≤ k_)) v5_ r6 ∧ Below w.heap.size w w' := by
  have hu43 := Try.underlying43
  have HO0 := Aside0.mk (show Kd.V k43 43 w w.heap.size (fun k_ => ((P0_ k_ ∨ P1_2_ k_ ∨ P1_5_ k_) ∨ w.heap.size ≤ k_)) (.slice A0 l0.length c0) l0 from Kd.V_mono hs0 (fun k_ hk => .inl (.inl hk)))
  have HO1_2 := Aside0.mk (show Kd.V (Kd.int .u32) 102 w w.heap.size (fun k_ => ((P0_ k_ ∨ P1_2_ k_ ∨ P1_5_ k_) ∨ w.heap.size ≤ k_)) (.slice A1_2 l1_2.length c1_2) l1_2 from Kd.V_mono hs1_2 (fun k_ hk => .inl (.inr (.inl hk))))
  have HO1_5 := Aside0.mk (show Kd.V k43 43 w w.heap.size (fun k_ => ((P0_ k_ ∨ P1_2_ k_ ∨ P1_5_ k_) ∨ w.heap.size ≤ k_)) (.slice A1_5 l1_5.length c1_5) l1_5 from Kd.V_mono hs1_5 (fun k_ hk => .inl (.inr (.inr hk))))
  have HB := Aside0.mk (Below.refl w.heap.size w)
  have H : (relictref03_List.l0 k l0 (wrap64 ((l0.length : Int) - 1)) a1_0 a1_1 l1_2 a1_3 a1_4 l1_5) = some (r1, r2, r3, r4, r5, r6) := h
  clear h
  have H' := Aside0.mk H
  clear H
  go_enter Try.func79, Try.ntmps79
  go_wp2_with (first | ((with_reducible refine gate_dst (N := 3) rfl ?_); refine box_event ?hg (N := 3) ?hd (cs := #[.int .i64 a1_0, .bool a1_1, .slice A1_2 l1_2.length c1_2, .string a1_3, .int .i64 a1_4, .slice A1_5 l1_5.length c1_5]) (t := 43) ?hr ?_; (case hd => rfl); (case hg => rfl); (case hr => first | (go_simp; done) | (go_simp; rfl)); intro gb180 hg w3 hbox hb; have n0_ := Aside0.mk (Kd.V_below (Kd.V_elderB (by (with_reducible repeat (first | apply Kd.V_alloc | apply Kd.V_drewN | apply Kd.V_drew)); exact HO0.out) gb180 (Nat.le_of_eq hg.symm)) hb); have n1_ := Aside0.mk (Kd.V_below (Kd.V_elderB (by (with_reducible repeat (first | apply Kd.V_alloc | apply Kd.V_drewN | apply Kd.V_drew)); exact HO1_2.out) gb180 (Nat.le_of_eq hg.symm)) hb); have n2_ := Aside0.mk (Kd.V_below (Kd.V_elderB (by (with_reducible repeat (first | apply Kd.V_alloc | apply Kd.V_drewN | apply Kd.V_drew)); exact HO1_5.out) gb180 (Nat.le_of_eq hg.symm)) hb); have n3_ := Aside0.mk (below_step (by repeat (first | (with_reducible first | exact HB.out | apply below_alloc | apply pw_below_drewN | apply below_drew1) | exact HB.out)) hb); have n4_ := Aside0.mk (hbox); have n5_ := Aside0.mk ((by rw [hg]; exact (below_size (by repeat (first | (with_reducible first | exact HB.out | apply below_alloc | apply pw_below_drewN | apply below_drew1) | exact HB.out))) : w.heap.size ≤ gb180)); have n6_ := Aside0.mk ((by rw [hg]; exact (below_size (by repeat (first | (with_reducible first | exact HB.out | apply below_alloc | apply pw_below_drewN | apply below_drew1) | exact HB.out))) : w.heap.size ≤ gb180)); clear HO0; clear HO1_2; clear HO1_5; clear HB; have HO0 := n0_; have HO1_2 := n1_; have HO1_5 := n2_; have HB := n3_; have BK180 := n4_; have GW180 := n5_; have GE180 := n6_; clear n0_ n1_ n2_ n3_ n4_ n5_ n6_; clear hb hbox hg) | ((with_reducible refine gate_dst (N := 4) rfl ?_); refine box_event ?hg (N := 4) ?hd (cs := #[.int .i64 0, .bool false, .slice none 0 0, .string (⟨#[]⟩ : ByteArray), .int .i64 0, .slice none 0 0]) (t := 43) ?hr ?_; (case hd => rfl); (case hg => rfl); (case hr => first | (go_simp; done) | (go_simp; rfl)); intro gb181 hg w4 hbox hb; have n0_ := Aside0.mk (Kd.V_below (Kd.V_elderB (by (with_reducible repeat (first | apply Kd.V_alloc | apply Kd.V_drewN | apply Kd.V_drew)); exact HO0.out) gb181 (Nat.le_of_eq hg.symm)) hb); have n1_ := Aside0.mk (Kd.V_below (Kd.V_elderB (by (with_reducible repeat (first | apply Kd.V_alloc | apply Kd.V_drewN | apply Kd.V_drew)); exact HO1_2.out) gb181 (Nat.le_of_eq hg.symm)) hb); have n2_ := Aside0.mk (Kd.V_below (Kd.V_elderB (by (with_reducible repeat (first | apply Kd.V_alloc | apply Kd.V_drewN | apply Kd.V_drew)); exact HO1_5.out) gb181 (Nat.le_of_eq hg.symm)) hb); have n3_ := Aside0.mk (blk_below (g := gb180) (o := .cells #[.int .i64 a1_0, .bool a1_1, .slice A1_2 l1_2.length c1_2, .string a1_3, .int .i64 a1_4, .slice A1_5 l1_5.length c1_5] 43 (0, 0)) (by (with_reducible repeat (first | refine blk_drewN ?_ _ | refine blk_drew ?_ | refine blk_alloc ?_ _)); exact BK180.out) hb); have n4_ := Aside0.mk (below_step (by repeat (first | (with_reducible first | exact HB.out | apply below_alloc | apply pw_below_drewN | apply below_drew1 | refine below_set ?_ GE180.out) | exact HB.out)) hb); have n5_ := Aside0.mk (hbox); have n6_ := Aside0.mk ((by rw [hg]; exact (below_size (by repeat (first | (with_reducible first | exact HB.out | apply below_alloc | apply pw_below_drewN | apply below_drew1 | refine below_set ?_ GE180.out) | exact HB.out))) : w.heap.size ≤ gb181)); have n7_ := Aside0.mk ((by rw [hg]; exact (below_size (by repeat (first | (with_reducible first | exact HB.out | apply below_alloc | apply pw_below_drewN | apply below_drew1 | refine below_set ?_ GE180.out) | exact HB.out))) : w.heap.size ≤ gb181)); have n8_ := Aside0.mk ((by rw [hg]; exact Nat.ne_of_lt (blk_lt (g := gb180) (o := .cells #[.int .i64 a1_0, .bool a1_1, .slice A1_2 l1_2.length c1_2, .string a1_3, .int .i64 a1_4, .slice A1_5 l1_5.length c1_5] 43 (0, 0)) (by (with_reducible repeat (first | refine blk_drewN ?_ _ | refine blk_drew ?_ | refine blk_alloc ?_ _)); exact BK180.out)) : gb180 ≠ gb181)); have n9_ := Aside0.mk ((by rw [hg]; exact Nat.ne_of_gt (blk_lt (g := gb180) (o := .cells #[.int .i64 a1_0, .bool a1_1, .slice A1_2 l1_2.length c1_2, .string a1_3, .int .i64 a1_4, .slice A1_5 l1_5.length c1_5] 43 (0, 0)) (by (with_reducible repeat (first | refine blk_drewN ?_ _ | refine blk_drew ?_ | refine blk_alloc ?_ _)); exact BK180.out)) : gb181 ≠ gb180)); clear HO0; clear HO1_2; clear HO1_5; clear BK180; clear HB; have HO0 := n0_; have HO1_2 := n1_; have HO1_5 := n2_; have BK180 := n3_; have HB := n4_; have BK181 := n5_; have GW181 := n6_; have GE181 := n7_; have NB180_181 := n8_; have NB181_180 := n9_; clear n0_ n1_ n2_ n3_ n4_ n5_ n6_ n7_ n8_ n9_; clear hb hbox hg; have hnb5 := NB180_181.out; have hnc5 := NB181_180.out; have hcz6_0 : w4.cell? ⟨gb180, 0, none⟩ = some (.int .i64 a1_0) := (blk_cell BK180.out 0).trans rfl; have hcz6_1 : w4.cell? ⟨gb180, 1, none⟩ = some (.bool a1_1) := (blk_cell BK180.out 1).trans rfl; have hcz6_2 : w4.cell? ⟨gb180, 2, none⟩ = some (.slice A1_2 l1_2.length c1_2) := (blk_cell BK180.out 2).trans rfl; have hcz6_3 : w4.cell? ⟨gb180, 3, none⟩ = some (.string a1_3) := (blk_cell BK180.out 3).trans rfl; have hcz6_4 : w4.cell? ⟨gb180, 4, none⟩ = some (.int .i64 a1_4) := (blk_cell BK180.out 4).trans rfl; have hcz6_5 : w4.cell? ⟨gb180, 5, none⟩ = some (.slice A1_5 l1_5.length c1_5) := (blk_cell BK180.out 5).trans rfl; have hfz6_0 := blk_frozen BK180.out 0; have hfz6_1 := blk_frozen BK180.out 1; have hfz6_2 := blk_frozen BK180.out 2; have hfz6_3 := blk_frozen BK180.out 3; have hfz6_4 := blk_frozen BK180.out 4; have hfz6_5 := blk_frozen BK180.out 5) | ((with_reducible refine gate_dst (N := 5) rfl ?_); refine box_event ?hg (N := 5) ?hd (cs := #[.int .i64 0, .bool false, .slice none 0 0, .string (⟨#[]⟩ : ByteArray), .int .i64 0, .slice none 0 0]) (t := 43) ?hr ?_; (case hd => rfl); (case hg => rfl); (case hr => first | (go_simp; done) | (go_simp; rfl)); intro gb182 hg w7 hbox hb; have n0_ := Aside0.mk (Kd.V_below (Kd.V_elderB (by (with_reducible repeat (first | apply Kd.V_alloc | apply Kd.V_drewN | apply Kd.V_drew)); exact HO0.out) gb182 (Nat.le_of_eq hg.symm)) hb); have n1_ := Aside0.mk (Kd.V_below (Kd.V_elderB (by (with_reducible repeat (first | apply Kd.V_alloc | apply Kd.V_drewN | apply Kd.V_drew)); exact HO1_2.out) gb182 (Nat.le_of_eq hg.symm)) hb); have n2_ := Aside0.mk (Kd.V_below (Kd.V_elderB (by (with_reducible repeat (first | apply Kd.V_alloc | apply Kd.V_drewN | apply Kd.V_drew)); exact HO1_5.out) gb182 (Nat.le_of_eq hg.symm)) hb); have n3_ := Aside0.mk (blk_below (g := gb180) (o := .cells #[.int .i64 a1_0, .bool a1_1, .slice A1_2 l1_2.length c1_2, .string a1_3, .int .i64 a1_4, .slice A1_5 l1_5.length c1_5] 43 (0, 0)) (by (with_reducible repeat (first | refine blk_drewN ?_ _ | refine blk_drew ?_ | refine blk_alloc ?_ _)); exact BK180.out) hb); have n4_ := Aside0.mk (blk_below (g := gb181) (o := .cells #[.int .i64 0, .bool false, .slice none 0 0, .string (⟨#[]⟩ : ByteArray), .int .i64 0, .slice none 0 0] 43 (0, 0)) (by (with_reducible repeat (first | refine blk_drewN ?_ _ | refine blk_drew ?_ | refine blk_alloc ?_ _)); exact BK181.out) hb); have n5_ := Aside0.mk (below_step (by repeat (first | (with_reducible first | exact HB.out | apply below_alloc | apply pw_below_drewN | apply below_drew1 | refine below_set ?_ GE180.out | refine below_set ?_ GE181.out) | exact HB.out)) hb); have n6_ := Aside0.mk (hbox); have n7_ := Aside0.mk ((by rw [hg]; exact (below_size (by repeat (first | (with_reducible first | exact HB.out | apply below_alloc | apply pw_below_drewN | apply below_drew1 | refine below_set ?_ GE180.out | refine below_set ?_ GE181.out) | exact HB.out))) : w.heap.size ≤ gb182)); have n8_ := Aside0.mk ((by rw [hg]; exact (below_size (by repeat (first | (with_reducible first | exact HB.out | apply below_alloc | apply pw_below_drewN | apply below_drew1 | refine below_set ?_ GE180.out | refine below_set ?_ GE181.out) | exact HB.out))) : w.heap.size ≤ gb182)); have n9_ := Aside0.mk ((by rw [hg]; exact Nat.ne_of_lt (blk_lt (g := gb180) (o := .cells #[.int .i64 a1_0, .bool a1_1, .slice A1_2 l1_2.length c1_2, .string a1_3, .int .i64 a1_4, .slice A1_5 l1_5.length c1_5] 43 (0, 0)) (by (with_reducible repeat (first | refine blk_drewN ?_ _ | refine blk_drew ?_ | refine blk_alloc ?_ _)); exact BK180.out)) : gb180 ≠ gb182)); have n10_ := Aside0.mk ((by rw [hg]; exact Nat.ne_of_gt (blk_lt (g := gb180) (o := .cells #[.int .i64 a1_0, .bool a1_1, .slice A1_2 l1_2.length c1_2, .string a1_3, .int .i64 a1_4, .slice A1_5 l1_5.length c1_5] 43 (0, 0)) (by (with_reducible repeat (first | refine blk_drewN ?_ _ | refine blk_drew ?_ | refine blk_alloc ?_ _)); exact BK180.out)) : gb182 ≠ gb180)); have n11_ := Aside0.mk ((by rw [hg]; exact Nat.ne_of_lt (blk_lt (g := gb181) (o := .cells #[.int .i64 0, .bool false, .slice none 0 0, .string (⟨#[]⟩ : ByteArray), .int .i64 0, .slice none 0 0] 43 (0, 0)) (by (with_reducible repeat (first | refine blk_drewN ?_ _ | refine blk_drew ?_ | refine blk_alloc ?_ _)); exact BK181.out)) : gb181 ≠ gb182)); have n12_ := Aside0.mk ((by rw [hg]; exact Nat.ne_of_gt (blk_lt (g := gb181) (o := .cells #[.int .i64 0, .bool false, .slice none 0 0, .string (⟨#[]⟩ : ByteArray), .int .i64 0, .slice none 0 0] 43 (0, 0)) (by (with_reducible repeat (first | refine blk_drewN ?_ _ | refine blk_drew ?_ | refine blk_alloc ?_ _)); exact BK181.out)) : gb182 ≠ gb181)); clear HO0; clear HO1_2; clear HO1_5; clear BK180; clear BK181; clear HB; have HO0 := n0_; have HO1_2 := n1_; have HO1_5 := n2_; have BK180 := n3_; have BK181 := n4_; have HB := n5_; have BK182 := n6_; have GW182 := n7_; have GE182 := n8_; have NB180_182 := n9_; have NB182_180 := n10_; have NB181_182 := n11_; have NB182_181 := n12_; clear n0_ n1_ n2_ n3_ n4_ n5_ n6_ n7_ n8_ n9_ n10_ n11_ n12_; clear hb hbox hg; have hnb8 := NB182_180.out; have hnc8 := NB180_182.out; have hnb9 := NB182_181.out; have hnc9 := NB181_182.out; have hcz10_0 : w7.cell? ⟨gb182, 0, none⟩ = some (.int .i64 0) := (blk_cell BK182.out 0).trans rfl; have hcz10_1 : w7.cell? ⟨gb182, 1, none⟩ = some (.bool false) := (blk_cell BK182.out 1).trans rfl; have hcz10_2 : w7.cell? ⟨gb182, 2, none⟩ = some (.slice none 0 0) := (blk_cell BK182.out 2).trans rfl; have hcz10_3 : w7.cell? ⟨gb182, 3, none⟩ = some (.string (⟨#[]⟩ : ByteArray)) := (blk_cell BK182.out 3).trans rfl; have hcz10_4 : w7.cell? ⟨gb182, 4, none⟩ = some (.int .i64 0) := (blk_cell BK182.out 4).trans rfl; have hcz10_5 : w7.cell? ⟨gb182, 5, none⟩ = some (.slice none 0 0) := (blk_cell BK182.out 5).trans rfl; have hfz10_0 := blk_frozen BK182.out 0; have hfz10_1 := blk_frozen BK182.out 1; have hfz10_2 := blk_frozen BK182.out 2; have hfz10_3 := blk_frozen BK182.out 3; have hfz10_4 := blk_frozen BK182.out 4; have hfz10_5 := blk_frozen BK182.out 5))
  go_loopg [6] k (fun kq v6 w' => ∃ (x6_1 : Int) (x183000_1 : Int) (x183001_1 : Bool) (x183002_1 : List Int) (x183003_1 : ByteArray) (x183004_1 : Int) (x183005_1 : List (S43)) (u183002 : Value) (u183005 : Value), v6 = .int .i64 x6_1 ∧ Aside0 (relictref03_List.l0 kq l0 x6_1 x183000_1 x183001_1 x183002_1 x183003_1 x183004_1 x183005_1 = some (r1, r2, r3, r4, r5, r6)) ∧ Aside0 (kq ≤ k) ∧ Aside0 (Kd.V k43 43 w' w.heap.size (fun k_ => ((P0_ k_ ∨ P1_2_ k_ ∨ P1_5_ k_) ∨ w.heap.size ≤ k_) ∧ k_ ≠ gb180 ∧ k_ ≠ gb181 ∧ k_ ≠ gb182) (.slice A0 l0.length c0) l0) ∧ Aside0 (Kd.V (Kd.int .u32) 102 w' w.heap.size (fun k_ => ((P0_ k_ ∨ P1_2_ k_ ∨ P1_5_ k_) ∨ w.heap.size ≤ k_) ∧ k_ ≠ gb180 ∧ k_ ≠ gb181 ∧ k_ ≠ gb182) (.slice A1_2 l1_2.length c1_2) l1_2) ∧ Aside0 (Kd.V k43 43 w' w.heap.size (fun k_ => ((P0_ k_ ∨ P1_2_ k_ ∨ P1_5_ k_) ∨ w.heap.size ≤ k_) ∧ k_ ≠ gb180 ∧ k_ ≠ gb181 ∧ k_ ≠ gb182) (.slice A1_5 l1_5.length c1_5) l1_5) ∧ Aside0 (Kd.V (Kd.int .u32) 102 w' w.heap.size (fun k_ => ((P0_ k_ ∨ P1_2_ k_ ∨ P1_5_ k_) ∨ w.heap.size ≤ k_) ∧ k_ ≠ gb180 ∧ k_ ≠ gb181 ∧ k_ ≠ gb182) u183002 x183002_1) ∧ Aside0 (Kd.V k43 43 w' w.heap.size (fun k_ => ((P0_ k_ ∨ P1_2_ k_ ∨ P1_5_ k_) ∨ w.heap.size ≤ k_) ∧ k_ ≠ gb180 ∧ k_ ≠ gb181 ∧ k_ ≠ gb182) u183005 x183005_1) ∧ Aside0 (w'.heap[gb180]? = some (.cells #[.int .i64 a1_0, .bool a1_1, (.slice A1_2 l1_2.length c1_2), .string a1_3, .int .i64 a1_4, (.slice A1_5 l1_5.length c1_5)] 43 (0, 0))) ∧ Aside0 (w'.heap[gb181]? = some (.cells #[.int .i64 0, .bool false, (.slice none 0 0), .string (⟨#[]⟩ : ByteArray), .int .i64 0, (.slice none 0 0)] 43 (0, 0))) ∧ Aside0 (w'.heap[gb182]? = some (.cells #[.int .i64 x183000_1, .bool x183001_1, u183002, .string x183003_1, .int .i64 x183004_1, u183005] 43 (0, 0))) ∧ Aside0 (Below w.heap.size w w'))
  case atStart => exact ⟨(wrap64 ((l0.length : Int) - 1)), (a1_0), (a1_1), (l1_2), (a1_3), (a1_4), (l1_5), (.slice A1_2 l1_2.length c1_2), (.slice A1_5 l1_5.length c1_5), (by first | rfl | (simp; done) | (simp [*]; done)), H', ⟨Nat.le_refl _⟩, ⟨by (with_reducible repeat (first | apply Kd.V_alloc | apply Kd.V_drewN | apply Kd.V_drew)); exact Kd.V_mono (Kd.V_far (p := ⟨gb182, 5, none⟩) (Kd.V_far (p := ⟨gb182, 4, none⟩) (Kd.V_far (p := ⟨gb182, 3, none⟩) (Kd.V_far (p := ⟨gb182, 2, none⟩) (Kd.V_far (p := ⟨gb182, 1, none⟩) (Kd.V_far (p := ⟨gb182, 0, none⟩) (Kd.V_mono HO0.out (fun k_ hk => (⟨hk, hk.2⟩ : _ ∧ k_ ≠ gb182))) (fun _ hk => hk.2) (.int .i64 a1_0)) (fun _ hk => hk.2) (.bool a1_1)) (fun _ hk => hk.2) (.slice A1_2 l1_2.length c1_2)) (fun _ hk => hk.2) (.string a1_3)) (fun _ hk => hk.2) (.int .i64 a1_4)) (fun _ hk => hk.2) (.slice A1_5 l1_5.length c1_5)) (fun _ hk => ⟨hk.1.1.1.1, ⟨hk.1.1.1.2, ⟨hk.1.1.2, hk.1.2⟩⟩⟩)⟩, ⟨by (with_reducible repeat (first | apply Kd.V_alloc | apply Kd.V_drewN | apply Kd.V_drew)); exact Kd.V_mono (Kd.V_far (p := ⟨gb182, 5, none⟩) (Kd.V_far (p := ⟨gb182, 4, none⟩) (Kd.V_far (p := ⟨gb182, 3, none⟩) (Kd.V_far (p := ⟨gb182, 2, none⟩) (Kd.V_far (p := ⟨gb182, 1, none⟩) (Kd.V_far (p := ⟨gb182, 0, none⟩) (Kd.V_mono HO1_2.out (fun k_ hk => (⟨hk, hk.2⟩ : _ ∧ k_ ≠ gb182))) (fun _ hk => hk.2) (.int .i64 a1_0)) (fun _ hk => hk.2) (.bool a1_1)) (fun _ hk => hk.2) (.slice A1_2 l1_2.length c1_2)) (fun _ hk => hk.2) (.string a1_3)) (fun _ hk => hk.2) (.int .i64 a1_4)) (fun _ hk => hk.2) (.slice A1_5 l1_5.length c1_5)) (fun _ hk => ⟨hk.1.1.1.1, ⟨hk.1.1.1.2, ⟨hk.1.1.2, hk.1.2⟩⟩⟩)⟩, ⟨by (with_reducible repeat (first | apply Kd.V_alloc | apply Kd.V_drewN | apply Kd.V_drew)); exact Kd.V_mono (Kd.V_far (p := ⟨gb182, 5, none⟩) (Kd.V_far (p := ⟨gb182, 4, none⟩) (Kd.V_far (p := ⟨gb182, 3, none⟩) (Kd.V_far (p := ⟨gb182, 2, none⟩) (Kd.V_far (p := ⟨gb182, 1, none⟩) (Kd.V_far (p := ⟨gb182, 0, none⟩) (Kd.V_mono HO1_5.out (fun k_ hk => (⟨hk, hk.2⟩ : _ ∧ k_ ≠ gb182))) (fun _ hk => hk.2) (.int .i64 a1_0)) (fun _ hk => hk.2) (.bool a1_1)) (fun _ hk => hk.2) (.slice A1_2 l1_2.length c1_2)) (fun _ hk => hk.2) (.string a1_3)) (fun _ hk => hk.2) (.int .i64 a1_4)) (fun _ hk => hk.2) (.slice A1_5 l1_5.length c1_5)) (fun _ hk => ⟨hk.1.1.1.1, ⟨hk.1.1.1.2, ⟨hk.1.1.2, hk.1.2⟩⟩⟩)⟩, ⟨by (with_reducible repeat (first | apply Kd.V_alloc | apply Kd.V_drewN | apply Kd.V_drew)); exact Kd.V_mono (Kd.V_far (p := ⟨gb182, 5, none⟩) (Kd.V_far (p := ⟨gb182, 4, none⟩) (Kd.V_far (p := ⟨gb182, 3, none⟩) (Kd.V_far (p := ⟨gb182, 2, none⟩) (Kd.V_far (p := ⟨gb182, 1, none⟩) (Kd.V_far (p := ⟨gb182, 0, none⟩) (Kd.V_mono HO1_2.out (fun k_ hk => (⟨hk, hk.2⟩ : _ ∧ k_ ≠ gb182))) (fun _ hk => hk.2) (.int .i64 a1_0)) (fun _ hk => hk.2) (.bool a1_1)) (fun _ hk => hk.2) (.slice A1_2 l1_2.length c1_2)) (fun _ hk => hk.2) (.string a1_3)) (fun _ hk => hk.2) (.int .i64 a1_4)) (fun _ hk => hk.2) (.slice A1_5 l1_5.length c1_5)) (fun _ hk => ⟨hk.1.1.1.1, ⟨hk.1.1.1.2, ⟨hk.1.1.2, hk.1.2⟩⟩⟩)⟩, ⟨by (with_reducible repeat (first | apply Kd.V_alloc | apply Kd.V_drewN | apply Kd.V_drew)); exact Kd.V_mono (Kd.V_far (p := ⟨gb182, 5, none⟩) (Kd.V_far (p := ⟨gb182, 4, none⟩) (Kd.V_far (p := ⟨gb182, 3, none⟩) (Kd.V_far (p := ⟨gb182, 2, none⟩) (Kd.V_far (p := ⟨gb182, 1, none⟩) (Kd.V_far (p := ⟨gb182, 0, none⟩) (Kd.V_mono HO1_5.out (fun k_ hk => (⟨hk, hk.2⟩ : _ ∧ k_ ≠ gb182))) (fun _ hk => hk.2) (.int .i64 a1_0)) (fun _ hk => hk.2) (.bool a1_1)) (fun _ hk => hk.2) (.slice A1_2 l1_2.length c1_2)) (fun _ hk => hk.2) (.string a1_3)) (fun _ hk => hk.2) (.int .i64 a1_4)) (fun _ hk => hk.2) (.slice A1_5 l1_5.length c1_5)) (fun _ hk => ⟨hk.1.1.1.1, ⟨hk.1.1.1.2, ⟨hk.1.1.2, hk.1.2⟩⟩⟩)⟩, ⟨by (with_reducible repeat (first | refine blk_drewN ?_ _ | refine blk_drew ?_ | refine blk_alloc ?_ _)); refine blk_far ?_ NB180_182.out _; (with_reducible repeat (first | refine blk_drewN ?_ _ | refine blk_drew ?_ | refine blk_alloc ?_ _)); refine blk_far ?_ NB180_182.out _; (with_reducible repeat (first | refine blk_drewN ?_ _ | refine blk_drew ?_ | refine blk_alloc ?_ _)); refine blk_far ?_ NB180_182.out _; (with_reducible repeat (first | refine blk_drewN ?_ _ | refine blk_drew ?_ | refine blk_alloc ?_ _)); refine blk_far ?_ NB180_182.out _; (with_reducible repeat (first | refine blk_drewN ?_ _ | refine blk_drew ?_ | refine blk_alloc ?_ _)); refine blk_far ?_ NB180_182.out _; (with_reducible repeat (first | refine blk_drewN ?_ _ | refine blk_drew ?_ | refine blk_alloc ?_ _)); refine blk_far ?_ NB180_182.out _; (with_reducible repeat (first | refine blk_drewN ?_ _ | refine blk_drew ?_ | refine blk_alloc ?_ _)); exact BK180.out⟩, ⟨by (with_reducible repeat (first | refine blk_drewN ?_ _ | refine blk_drew ?_ | refine blk_alloc ?_ _)); refine blk_far ?_ NB181_182.out _; (with_reducible repeat (first | refine blk_drewN ?_ _ | refine blk_drew ?_ | refine blk_alloc ?_ _)); refine blk_far ?_ NB181_182.out _; (with_reducible repeat (first | refine blk_drewN ?_ _ | refine blk_drew ?_ | refine blk_alloc ?_ _)); refine blk_far ?_ NB181_182.out _; (with_reducible repeat (first | refine blk_drewN ?_ _ | refine blk_drew ?_ | refine blk_alloc ?_ _)); refine blk_far ?_ NB181_182.out _; (with_reducible repeat (first | refine blk_drewN ?_ _ | refine blk_drew ?_ | refine blk_alloc ?_ _)); refine blk_far ?_ NB181_182.out _; (with_reducible repeat (first | refine blk_drewN ?_ _ | refine blk_drew ?_ | refine blk_alloc ?_ _)); refine blk_far ?_ NB181_182.out _; (with_reducible repeat (first | refine blk_drewN ?_ _ | refine blk_drew ?_ | refine blk_alloc ?_ _)); exact BK181.out⟩, ⟨by (with_reducible repeat (first | refine blk_drewN ?_ _ | refine blk_drew ?_ | refine blk_alloc ?_ _)); refine blk_put (cs := #[.int .i64 a1_0, .bool a1_1, .slice A1_2 l1_2.length c1_2, .string a1_3, .int .i64 a1_4, .slice none 0 0]) ?_ 5 _ rfl; (with_reducible repeat (first | refine blk_drewN ?_ _ | refine blk_drew ?_ | refine blk_alloc ?_ _)); refine blk_put (cs := #[.int .i64 a1_0, .bool a1_1, .slice A1_2 l1_2.length c1_2, .string a1_3, .int .i64 0, .slice none 0 0]) ?_ 4 _ rfl; (with_reducible repeat (first | refine blk_drewN ?_ _ | refine blk_drew ?_ | refine blk_alloc ?_ _)); refine blk_put (cs := #[.int .i64 a1_0, .bool a1_1, .slice A1_2 l1_2.length c1_2, .string (⟨#[]⟩ : ByteArray), .int .i64 0, .slice none 0 0]) ?_ 3 _ rfl; (with_reducible repeat (first | refine blk_drewN ?_ _ | refine blk_drew ?_ | refine blk_alloc ?_ _)); refine blk_put (cs := #[.int .i64 a1_0, .bool a1_1, .slice none 0 0, .string (⟨#[]⟩ : ByteArray), .int .i64 0, .slice none 0 0]) ?_ 2 _ rfl; (with_reducible repeat (first | refine blk_drewN ?_ _ | refine blk_drew ?_ | refine blk_alloc ?_ _)); refine blk_put (cs := #[.int .i64 a1_0, .bool false, .slice none 0 0, .string (⟨#[]⟩ : ByteArray), .int .i64 0, .slice none 0 0]) ?_ 1 _ rfl; (with_reducible repeat (first | refine blk_drewN ?_ _ | refine blk_drew ?_ | refine blk_alloc ?_ _)); refine blk_put (cs := #[.int .i64 0, .bool false, .slice none 0 0, .string (⟨#[]⟩ : ByteArray), .int .i64 0, .slice none 0 0]) ?_ 0 _ rfl; (with_reducible repeat (first | refine blk_drewN ?_ _ | refine blk_drew ?_ | refine blk_alloc ?_ _)); exact BK182.out⟩, ⟨by repeat (first | (with_reducible first | exact HB.out | apply below_alloc | apply pw_below_drewN | apply below_drew1 | refine below_set ?_ GE180.out | refine below_set ?_ GE181.out | refine below_set ?_ GE182.out) | exact HB.out)⟩⟩
  case round =>
    clear H'
    try clear c1
    try clear p2
    try clear c5
    try clear p6
    try clear c7
    try clear c8
    try clear c9
    try clear hcz10_0
    try clear hcz10_1
    try clear hcz10_2
    try clear hcz10_3
    try clear hcz10_4
    try clear hcz10_5
    try clear hcz6_0
    try clear hcz6_1
    try clear hcz6_2
    try clear hcz6_3
    try clear hcz6_4
    try clear hcz6_5
    try clear hfz10_0
    try clear hfz10_1
    try clear hfz10_2
    try clear hfz10_3
    try clear hfz10_4
    try clear hfz10_5
    try clear hfz6_0
    try clear hfz6_1
    try clear hfz6_2
    try clear hfz6_3
    try clear hfz6_4
    try clear hfz6_5
    obtain ⟨x6_1, x183000_1, x183001_1, x183002_1, x183003_1, x183004_1, x183005_1, u183002, u183005, rfl, HA, HK1, HO_0, HO_181002, HO_181005, HO_183002, HO_183005, BK180, BK181, BK182, HB⟩ := hrel
    cases gk with
    | zero => exact absurd HA.out (by simp [relictref03_List.l0])
    | succ k1 =>
      have H := HA.out
      clear HA
      simp only [relictref03_List.l0] at H
      by_cases c11 : x6_1 ≥ 0
      · rw [if_pos c11] at H
        have c11b0 : decide (0 ≤ x6_1) = true := decide_eq_true c11
        clear c11
        by_cases c12 : 0 ≤ x6_1
        · rw [if_pos c12] at H
          have c12b0 : decide (0 ≤ x6_1) = true := decide_eq_true c12
          clear c12
          by_cases c13 : x6_1 < (l0.length : Int)
          · rw [if_pos c13] at H
            have c13b0 : decide (x6_1 < (l0.length : Int)) = true := decide_eq_true c13
            clear c13
            obtain ⟨y184, hy184⟩ : ∃ y_ : List (S43), y_ = (([(⟨(rd_T43 l0 x6_1).f0, (⟨(rd_T43 l0 x6_1).f1.f0, (rd_T43 l0 x6_1).f1.f1⟩ : S41), (rd_T43 l0 x6_1).f2, (rd_T43 l0 x6_1).f3, (rd_T43 l0 x6_1).f4⟩ : S43), (⟨x183000_1, (⟨x183001_1, x183002_1⟩ : S41), x183003_1, x183004_1, x183005_1⟩ : S43)] : List (S43))) := ⟨_, rfl⟩
            replace H : (relictref03_List.l0 k1 l0 (wrap64 (x6_1 - 1)) 4 false ([] : List Int) (⟨#[]⟩ : ByteArray) 0 y184) = some (r1, r2, r3, r4, r5, r6) := by first | (rw [hy184]; with_reducible exact H) | (have H2_ := (Option.bind_some _ _).symm.trans H; rw [hy184]; with_reducible exact H2_) | (have H2_ := (Option.bind_some _ _).symm.trans H; with_reducible exact H2_) | with_reducible exact H | (rw [hy184]; exact H) | exact H
            have Ny184 := Aside0.mk hy184
            clear hy184
            have H' := Aside0.mk H
            clear H
            try go_wp2
            have n0_ := Aside0.mk (Kd.V_drew HO_0.out)
            have n1_ := Aside0.mk (Kd.V_drew HO_181002.out)
            have n2_ := Aside0.mk (Kd.V_drew HO_181005.out)
            have n3_ := Aside0.mk (Kd.V_drew HO_183002.out)
            have n4_ := Aside0.mk (Kd.V_drew HO_183005.out)
            have n5_ := Aside0.mk (blk_drew BK180.out)
            have n6_ := Aside0.mk (blk_drew BK181.out)
            have n7_ := Aside0.mk (blk_drew BK182.out)
            have n8_ := Aside0.mk (below_drew1 HB.out)
            clear HO_0
            clear HO_181002
            clear HO_181005
            clear HO_183002
            clear HO_183005
            clear BK180
            clear BK181
            clear BK182
            clear HB
            have HO_0 := n0_
            have HO_181002 := n1_
            have HO_181005 := n2_
            have HO_183002 := n3_
            have HO_183005 := n4_
            have BK180 := n5_
            have BK181 := n6_
            have BK182 := n7_
            have HB := n8_
            clear n0_ n1_ n2_ n3_ n4_ n5_ n6_ n7_ n8_
            have p183 : 0 ≤ (x6_1 : Int) := of_decide_eq_true (by first | (with_reducible assumption) | assumption)
            have q183 : x6_1 < (l0.length : Int) := of_decide_eq_true (by first | (with_reducible assumption) | assumption)
            obtain ⟨ad183, A183_2, c183_2, A183_5, c183_5, e183, hx183_0, hx183_1, hx183_2, hx183_3, hx183_4, hx183_5, hl183_2, hi183_2, hl183_5, hi183_5⟩ := at_T43 (Kd.V_reads' HO_0.out).2.2 x6_1 p183 q183
            cases e183
            obtain ⟨ce183, hce183, hMe183, hcc183⟩ := Kd.V_get HO_0.out z43 x6_1 p183 (by first | exact q183 | exact of_decide_eq_true (by first | (with_reducible assumption) | assumption) | (have e_ := (Kd.V_reads' HO_0.out).1; omega))
            obtain ⟨ua183_2, uc183_2, ua183_5, uc183_5, rfl, ul183_2, ge183_2, ul183_5, ge183_5⟩ := k43_openF hMe183
            have hv183_2 := hcc183 2 _ rfl
            rw [add_field _ _ 2 (by omega)] at hv183_2
            replace hv183_2 := Option.some.inj (hv183_2.symm.trans hx183_2)
            injection hv183_2 with hva_ hvn_ hvc_
            rw [hva_] at ge183_2
            rw [hvc_] at ul183_2
            have HL183_2 := Aside0.mk (show Kd.V (Kd.int .u32) 102 _ w.heap.size _ _ ((rd_T43 l0 x6_1).f1.f1) from Kd.V_mk ul183_2 ge183_2)
            clear hva_ hvn_ hvc_ ge183_2 ul183_2
            have hv183_5 := hcc183 5 _ rfl
            rw [add_field _ _ 5 (by omega)] at hv183_5
            replace hv183_5 := Option.some.inj (hv183_5.symm.trans hx183_5)
            injection hv183_5 with hva_ hvn_ hvc_
            rw [hva_] at ge183_5
            rw [hvc_] at ul183_5
            have HL183_5 := Aside0.mk (show Kd.V k43 43 _ w.heap.size _ _ ((rd_T43 l0 x6_1).f4) from Kd.V_mk ul183_5 ge183_5)
            clear hva_ hvn_ hvc_ ge183_5 ul183_5
            clear hcc183 hce183
            have HR183_2 := Aside0.mk hi183_2
            have HC183_2 := Aside0.mk hl183_2
            clear hi183_2 hl183_2
            have HR183_5 := Aside0.mk hi183_5
            have HC183_5 := Aside0.mk hl183_5
            clear hi183_5 hl183_5
            replace p183 := eq_true p183
            replace q183 := eq_true q183
            obtain ⟨Ao15, co15, eo15⟩ := Kd.V_slice HO_183002.out
            (first | subst eo15 | (injection eo15 with f1_ f2_ f3_; have f4_ := f1_.symm; have f5_ := f3_.symm; clear f1_ f2_ f3_; subst f4_; subst f5_))
            obtain ⟨Ao16, co16, eo16⟩ := Kd.V_slice HO_183005.out
            (first | subst eo16 | (injection eo16 with f1_ f2_ f3_; have f4_ := f1_.symm; have f5_ := f3_.symm; clear f1_ f2_ f3_; subst f4_; subst f5_))
            refine start_ (n := 8) (S := fun w' => w'.cell? ⟨gb182, 0, none⟩ = some (.int .i64 x183000_1) ∧ w'.cell? ⟨gb182, 1, none⟩ = some (.bool x183001_1) ∧ w'.cell? ⟨gb182, 2, none⟩ = some (.slice Ao15 x183002_1.length co15) ∧ w'.cell? ⟨gb182, 3, none⟩ = some (.string x183003_1) ∧ w'.cell? ⟨gb182, 4, none⟩ = some (.int .i64 x183004_1) ∧ w'.cell? ⟨gb182, 5, none⟩ = some (.slice Ao16 x183005_1.length co16) ∧ w'.cell? (ad183.add ((x6_1).toNat * 6)) = some (.int .i64 ((rd_T43 l0 x6_1).f0)) ∧ w'.cell? ⟨(ad183.add ((x6_1).toNat * 6)).block, (ad183.add ((x6_1).toNat * 6)).off + 1, none⟩ = some (.bool ((rd_T43 l0 x6_1).f1.f0)) ∧ w'.cell? ⟨(ad183.add ((x6_1).toNat * 6)).block, (ad183.add ((x6_1).toNat * 6)).off + 2, none⟩ = some (.slice A183_2 ((rd_T43 l0 x6_1).f1.f1).length c183_2) ∧ w'.cell? ⟨(ad183.add ((x6_1).toNat * 6)).block, (ad183.add ((x6_1).toNat * 6)).off + 3, none⟩ = some (.string ((rd_T43 l0 x6_1).f2)) ∧ w'.cell? ⟨(ad183.add ((x6_1).toNat * 6)).block, (ad183.add ((x6_1).toNat * 6)).off + 4, none⟩ = some (.int .i64 ((rd_T43 l0 x6_1).f3)) ∧ w'.cell? ⟨(ad183.add ((x6_1).toNat * 6)).block, (ad183.add ((x6_1).toNat * 6)).off + 5, none⟩ = some (.slice A183_5 ((rd_T43 l0 x6_1).f4).length c183_5)) (ds := [7]) #[false, false, false, false, false, false, false, false] (by kernel_rfl) rfl rfl ⟨(blk_cell BK182.out 0).trans rfl, (blk_cell BK182.out 1).trans rfl, (blk_cell BK182.out 2).trans rfl, (blk_cell BK182.out 3).trans rfl, (blk_cell BK182.out 4).trans rfl, (blk_cell BK182.out 5).trans rfl, hx183_0, hx183_1, hx183_2, hx183_3, hx183_4, hx183_5⟩ (fun hHeld => ?_); refine with_tabW relictref03_List.tab5 relictref03_List.bits5 (fun HT_ HW_ => ?_)
            generalize wr.drew = w14 at HO_0 HO_181002 HO_181005 HO_183002 HO_183005 BK180 BK181 BK182 HB HL183_2 HL183_5 HR183_2 HR183_5 hx183_0 hx183_1 hx183_2 hx183_3 hx183_4 hx183_5 hHeld ⊢
            refine pure_ (i := 0) (N := some 15) (v := ?_) (a' := ?_) #[true, false, false, false, false, false, false, false] rfl rfl (any_of HT_.out (by kernel_rfl)) (fun _ _ _ h => h) (Or.inl ⟨by rfl, ?_⟩) ?_ ?_
            rotate_left
            · intro w'
              go_simp
              with_reducible rfl
            rotate_left
            · simp only [Act.put, List.setIfInBounds_toArray, List.set_cons_zero, List.set_cons_succ, i64_w, i32_w]
              rfl
            refine pure_ (i := 1) (N := some 16) (v := ?_) (a' := ?_) #[true, true, false, false, false, false, false, false] rfl rfl (any_of HT_.out (by kernel_rfl)) (fun _ _ _ h => h) (Or.inl ⟨by rfl, ?_⟩) ?_ ?_
            rotate_left
            · intro w'
              go_simp
              with_reducible rfl
            rotate_left
            · simp only [Act.put, List.setIfInBounds_toArray, List.set_cons_zero, List.set_cons_succ, i64_w, i32_w]
              rfl
            refine pure_ (i := 2) (N := some 17) (v := ?_) (a' := ?_) #[true, true, true, false, false, false, false, false] rfl rfl (any_of HT_.out (by kernel_rfl)) (fun _ _ _ h => h) (Or.inl ⟨by rfl, ?_⟩) ?_ ?_
            rotate_left
            · intro w'
              go_simp
              with_reducible rfl
            rotate_left
            · simp only [Act.put, List.setIfInBounds_toArray, List.set_cons_zero, List.set_cons_succ, i64_w, i32_w]
              rfl
            refine take_ (i := 3) (N := some 18) (v := ?_) (a' := ?_) #[true, true, true, true, false, false, false, false] rfl rfl (take_ofW HT_.out HW_.out (by kernel_rfl)) (fun _ _ _ h => h) (Or.inl ⟨by rfl, ?_⟩) hHeld ?_ ?_
            rotate_left
            · rintro w' ⟨s0, s1, s2, s3, s4, s5, s6, s7, s8, s9, s10, s11⟩
              go_simp
              with_reducible rfl
            rotate_left
            · simp only [Act.put, List.setIfInBounds_toArray, List.set_cons_zero, List.set_cons_succ, i64_w, i32_w]
              rfl
            refine take_ (i := 4) (N := some 19) (v := ?_) (a' := ?_) #[true, true, true, true, true, false, false, false] rfl rfl (take_ofW HT_.out HW_.out (by kernel_rfl)) (fun _ _ _ h => h) (Or.inl ⟨by rfl, ?_⟩) hHeld ?_ ?_
            rotate_left
            · rintro w' ⟨s0, s1, s2, s3, s4, s5, s6, s7, s8, s9, s10, s11⟩
              go_simp
              with_reducible rfl
            rotate_left
            · simp only [Act.put, List.setIfInBounds_toArray, List.set_cons_zero, List.set_cons_succ, i64_w, i32_w]
              rfl
            refine one_ (i := 5) (N := some 20) #[true, true, true, true, true, true, false, false] rfl rfl (one_of HT_.out (by kernel_rfl)) (by decide) (fun K hK => ?_)
            refine Kd.N_lit_step k43 _ 43 ?hg (N' := 20) ?hd (xs := ([(⟨(rd_T43 l0 x6_1).f0, (⟨(rd_T43 l0 x6_1).f1.f0, (rd_T43 l0 x6_1).f1.f1⟩ : S41), (rd_T43 l0 x6_1).f2, (rd_T43 l0 x6_1).f3, (rd_T43 l0 x6_1).f4⟩ : S43), (⟨x183000_1, (⟨x183001_1, x183002_1⟩ : S41), x183003_1, x183004_1, x183005_1⟩ : S43)] : List (S43))) (inner := [.int .i64 ((rd_T43 l0 x6_1).f0), .bool ((rd_T43 l0 x6_1).f1.f0), .slice A183_2 ((rd_T43 l0 x6_1).f1.f1).length c183_2, .string ((rd_T43 l0 x6_1).f2), .int .i64 ((rd_T43 l0 x6_1).f3), .slice A183_5 ((rd_T43 l0 x6_1).f4).length c183_5, .int .i64 x183000_1, .bool x183001_1, .slice Ao15 x183002_1.length co15, .string x183003_1, .int .i64 x183004_1, .slice Ao16 x183005_1.length co16]) (ok := (fun k_ => ((P0_ k_ ∨ P1_2_ k_ ∨ P1_5_ k_) ∨ w.heap.size ≤ k_) ∧ k_ ≠ gb180 ∧ k_ ≠ gb181 ∧ k_ ≠ gb182)) (okp := (fun k_ => ((P0_ k_ ∨ P1_2_ k_ ∨ P1_5_ k_) ∨ w.heap.size ≤ k_) ∧ k_ ≠ gb180 ∧ k_ ≠ gb181 ∧ k_ ≠ gb182)) ?hr ?hp (fun _ hk => hk) ((show ∀ k_, w14.heap.size ≤ k_ → (fun k_ => ((P0_ k_ ∨ P1_2_ k_ ∨ P1_5_ k_) ∨ w.heap.size ≤ k_) ∧ k_ ≠ gb180 ∧ k_ ≠ gb181 ∧ k_ ≠ gb182) k_ from fun k_ hk => ⟨(.inr (Nat.le_trans (below_size (by repeat (first | (with_reducible first | exact HB.out | apply below_alloc | apply pw_below_drewN | apply below_drew1 | refine below_set ?_ GE180.out | refine below_set ?_ GE181.out | refine below_set ?_ GE182.out) | exact HB.out))) hk)), Kd.freshB (g := gb180) (o := .cells #[.int .i64 a1_0, .bool a1_1, .slice A1_2 l1_2.length c1_2, .string a1_3, .int .i64 a1_4, .slice A1_5 l1_5.length c1_5] 43 (0, 0)) (by (with_reducible repeat (first | refine blk_drewN ?_ _ | refine blk_drew ?_ | refine blk_alloc ?_ _)); exact BK180.out) k_ hk, Kd.freshB (g := gb181) (o := .cells #[.int .i64 0, .bool false, .slice none 0 0, .string (⟨#[]⟩ : ByteArray), .int .i64 0, .slice none 0 0] 43 (0, 0)) (by (with_reducible repeat (first | refine blk_drewN ?_ _ | refine blk_drew ?_ | refine blk_alloc ?_ _)); exact BK181.out) k_ hk, Kd.freshB (g := gb182) (o := .cells #[.int .i64 x183000_1, .bool x183001_1, .slice Ao15 x183002_1.length co15, .string x183003_1, .int .i64 x183004_1, .slice Ao16 x183005_1.length co16] 43 (0, 0)) (by (with_reducible repeat (first | refine blk_drewN ?_ _ | refine blk_drew ?_ | refine blk_alloc ?_ _)); exact BK182.out) k_ hk⟩) _ (Nat.le_refl _)) (Below.refl _ _) (Nat.le_refl _) (by simp) ?_; (case hd => rfl); (case hg => rfl); (case hr => first | (go_simp; done) | (go_simp; rfl)); (case hp => exact (Reps.c6 (show Kd.FK k43 _ _ (⟨(rd_T43 l0 x6_1).f0, (⟨(rd_T43 l0 x6_1).f1.f0, (rd_T43 l0 x6_1).f1.f1⟩ : S41), (rd_T43 l0 x6_1).f2, (rd_T43 l0 x6_1).f3, (rd_T43 l0 x6_1).f4⟩ : S43) [.int .i64 ((rd_T43 l0 x6_1).f0), .bool ((rd_T43 l0 x6_1).f1.f0), .slice A183_2 ((rd_T43 l0 x6_1).f1.f1).length c183_2, .string ((rd_T43 l0 x6_1).f2), .int .i64 ((rd_T43 l0 x6_1).f3), .slice A183_5 ((rd_T43 l0 x6_1).f4).length c183_5] from (k43_mkF _ _ (⟨(rd_T43 l0 x6_1).f0, (⟨(rd_T43 l0 x6_1).f1.f0, (rd_T43 l0 x6_1).f1.f1⟩ : S41), (rd_T43 l0 x6_1).f2, (rd_T43 l0 x6_1).f3, (rd_T43 l0 x6_1).f4⟩ : S43) (Kd.V_reads' (Kd.V_mono (ok' := (fun k_ => ((P0_ k_ ∨ P1_2_ k_ ∨ P1_5_ k_) ∨ w.heap.size ≤ k_) ∧ k_ ≠ gb180 ∧ k_ ≠ gb181 ∧ k_ ≠ gb182)) (HL183_2.out) (fun k_ hk => ⟨hk.1, ⟨hk.2.1, ⟨hk.2.2.1, hk.2.2.2⟩⟩⟩))).2.1 (Kd.V_F (Kd.V_mono (ok' := (fun k_ => ((P0_ k_ ∨ P1_2_ k_ ∨ P1_5_ k_) ∨ w.heap.size ≤ k_) ∧ k_ ≠ gb180 ∧ k_ ≠ gb181 ∧ k_ ≠ gb182)) (HL183_2.out) (fun k_ hk => ⟨hk.1, ⟨hk.2.1, ⟨hk.2.2.1, hk.2.2.2⟩⟩⟩))) (Kd.V_reads' (Kd.V_mono (ok' := (fun k_ => ((P0_ k_ ∨ P1_2_ k_ ∨ P1_5_ k_) ∨ w.heap.size ≤ k_) ∧ k_ ≠ gb180 ∧ k_ ≠ gb181 ∧ k_ ≠ gb182)) (HL183_5.out) (fun k_ hk => ⟨hk.1, ⟨hk.2.1, ⟨hk.2.2.1, hk.2.2.2⟩⟩⟩))).2.1 (Kd.V_F (Kd.V_mono (ok' := (fun k_ => ((P0_ k_ ∨ P1_2_ k_ ∨ P1_5_ k_) ∨ w.heap.size ≤ k_) ∧ k_ ≠ gb180 ∧ k_ ≠ gb181 ∧ k_ ≠ gb182)) (HL183_5.out) (fun k_ hk => ⟨hk.1, ⟨hk.2.1, ⟨hk.2.2.1, hk.2.2.2⟩⟩⟩))))) (Reps.c6 (show Kd.FK k43 _ _ (⟨x183000_1, (⟨x183001_1, x183002_1⟩ : S41), x183003_1, x183004_1, x183005_1⟩ : S43) [.int .i64 x183000_1, .bool x183001_1, .slice Ao15 x183002_1.length co15, .string x183003_1, .int .i64 x183004_1, .slice Ao16 x183005_1.length co16] from (k43_mkF _ _ (⟨x183000_1, (⟨x183001_1, x183002_1⟩ : S41), x183003_1, x183004_1, x183005_1⟩ : S43) (Kd.V_reads' (Kd.V_mono (ok' := (fun k_ => ((P0_ k_ ∨ P1_2_ k_ ∨ P1_5_ k_) ∨ w.heap.size ≤ k_) ∧ k_ ≠ gb180 ∧ k_ ≠ gb181 ∧ k_ ≠ gb182)) (HO_183002.out) (fun k_ hk => ⟨hk.1, ⟨hk.2.1, ⟨hk.2.2.1, hk.2.2.2⟩⟩⟩))).2.1 (Kd.V_F (Kd.V_mono (ok' := (fun k_ => ((P0_ k_ ∨ P1_2_ k_ ∨ P1_5_ k_) ∨ w.heap.size ≤ k_) ∧ k_ ≠ gb180 ∧ k_ ≠ gb181 ∧ k_ ≠ gb182)) (HO_183002.out) (fun k_ hk => ⟨hk.1, ⟨hk.2.1, ⟨hk.2.2.1, hk.2.2.2⟩⟩⟩))) (Kd.V_reads' (Kd.V_mono (ok' := (fun k_ => ((P0_ k_ ∨ P1_2_ k_ ∨ P1_5_ k_) ∨ w.heap.size ≤ k_) ∧ k_ ≠ gb180 ∧ k_ ≠ gb181 ∧ k_ ≠ gb182)) (HO_183005.out) (fun k_ hk => ⟨hk.1, ⟨hk.2.1, ⟨hk.2.2.1, hk.2.2.2⟩⟩⟩))).2.1 (Kd.V_F (Kd.V_mono (ok' := (fun k_ => ((P0_ k_ ∨ P1_2_ k_ ∨ P1_5_ k_) ∨ w.heap.size ≤ k_) ∧ k_ ≠ gb180 ∧ k_ ≠ gb181 ∧ k_ ≠ gb182)) (HO_183005.out) (fun k_ hk => ⟨hk.1, ⟨hk.2.1, ⟨hk.2.2.1, hk.2.2.2⟩⟩⟩))))) (Reps.none _ _))))
            intro v185 w17 ho18 hb hg_ hnew_
            have HS6_ := (hb.cell (World.block_lt_of_cell? _ _ (hHeld.2.2.2.2.2.2.1))).trans (hHeld.2.2.2.2.2.2.1)
            have HS7_ := (hb.cell (World.block_lt_of_cell? _ _ (hHeld.2.2.2.2.2.2.2.1))).trans (hHeld.2.2.2.2.2.2.2.1)
            have HS8_ := (hb.cell (World.block_lt_of_cell? _ _ (hHeld.2.2.2.2.2.2.2.2.1))).trans (hHeld.2.2.2.2.2.2.2.2.1)
            have HS9_ := (hb.cell (World.block_lt_of_cell? _ _ (hHeld.2.2.2.2.2.2.2.2.2.1))).trans (hHeld.2.2.2.2.2.2.2.2.2.1)
            have HS10_ := (hb.cell (World.block_lt_of_cell? _ _ (hHeld.2.2.2.2.2.2.2.2.2.2.1))).trans (hHeld.2.2.2.2.2.2.2.2.2.2.1)
            have HS11_ := (hb.cell (World.block_lt_of_cell? _ _ (hHeld.2.2.2.2.2.2.2.2.2.2.2))).trans (hHeld.2.2.2.2.2.2.2.2.2.2.2)
            clear hg_ hnew_
            (first | rw [← Ny184.out] at ho18 | (simp only [Int.reduceToNat] at ho18; rw [← Ny184.out] at ho18))
            have n0_ := Aside0.mk (Kd.V_elder' (by (with_reducible repeat (first | apply Kd.V_alloc | apply Kd.V_drewN | apply Kd.V_drew)); exact HO_0.out) (Kd.N_base ho18) hb)
            have n1_ := Aside0.mk (Kd.V_elder' (by (with_reducible repeat (first | apply Kd.V_alloc | apply Kd.V_drewN | apply Kd.V_drew)); exact HO_181002.out) (Kd.N_base ho18) hb)
            have n2_ := Aside0.mk (Kd.V_elder' (by (with_reducible repeat (first | apply Kd.V_alloc | apply Kd.V_drewN | apply Kd.V_drew)); exact HO_181005.out) (Kd.N_base ho18) hb)
            have n3_ := Aside0.mk (Kd.V_elder' (by (with_reducible repeat (first | apply Kd.V_alloc | apply Kd.V_drewN | apply Kd.V_drew)); exact HO_183002.out) (Kd.N_base ho18) hb)
            have n4_ := Aside0.mk (Kd.V_elder' (by (with_reducible repeat (first | apply Kd.V_alloc | apply Kd.V_drewN | apply Kd.V_drew)); exact HO_183005.out) (Kd.N_base ho18) hb)
            have n5_ := Aside0.mk (Kd.V_elder' (by (with_reducible repeat (first | apply Kd.V_alloc | apply Kd.V_drewN | apply Kd.V_drew)); exact HL183_2.out) (Kd.N_base ho18) hb)
            have n6_ := Aside0.mk (Kd.V_elder' (by (with_reducible repeat (first | apply Kd.V_alloc | apply Kd.V_drewN | apply Kd.V_drew)); exact HL183_5.out) (Kd.N_base ho18) hb)
            have n7_ := Aside0.mk (Kd.N_lower ho18 (below_size (by repeat (first | (with_reducible first | exact HB.out | apply below_alloc | apply pw_below_drewN | apply below_drew1 | refine below_set ?_ GE180.out | refine below_set ?_ GE181.out | refine below_set ?_ GE182.out) | exact HB.out))))
            have n8_ := Aside0.mk (blk_below (g := gb180) (o := .cells #[.int .i64 a1_0, .bool a1_1, .slice A1_2 l1_2.length c1_2, .string a1_3, .int .i64 a1_4, .slice A1_5 l1_5.length c1_5] 43 (0, 0)) (by (with_reducible repeat (first | refine blk_drewN ?_ _ | refine blk_drew ?_ | refine blk_alloc ?_ _)); exact BK180.out) hb)
            have n9_ := Aside0.mk (blk_below (g := gb181) (o := .cells #[.int .i64 0, .bool false, .slice none 0 0, .string (⟨#[]⟩ : ByteArray), .int .i64 0, .slice none 0 0] 43 (0, 0)) (by (with_reducible repeat (first | refine blk_drewN ?_ _ | refine blk_drew ?_ | refine blk_alloc ?_ _)); exact BK181.out) hb)
            have n10_ := Aside0.mk (blk_below (g := gb182) (o := .cells #[.int .i64 x183000_1, .bool x183001_1, .slice Ao15 x183002_1.length co15, .string x183003_1, .int .i64 x183004_1, .slice Ao16 x183005_1.length co16] 43 (0, 0)) (by (with_reducible repeat (first | refine blk_drewN ?_ _ | refine blk_drew ?_ | refine blk_alloc ?_ _)); exact BK182.out) hb)
            have n11_ := Aside0.mk (Kd.C_below (by repeat (first | (with_reducible exact HR183_2.out) | (with_reducible refine Kd.C_alloc ?_ _) | (with_reducible refine Kd.C_drewN ?_ _) | (with_reducible refine Kd.C_drew ?_) | exact HR183_2.out)) hb)
            have n12_ := Aside0.mk (Kd.C_below (by repeat (first | (with_reducible exact HR183_5.out) | (with_reducible refine Kd.C_alloc ?_ _) | (with_reducible refine Kd.C_drewN ?_ _) | (with_reducible refine Kd.C_drew ?_) | exact HR183_5.out)) hb)
            have n13_ := Aside0.mk (below_step (by repeat (first | (with_reducible first | exact HB.out | apply below_alloc | apply pw_below_drewN | apply below_drew1 | refine below_set ?_ GE180.out | refine below_set ?_ GE181.out | refine below_set ?_ GE182.out) | exact HB.out)) hb)
            clear HO_0
            clear HO_181002
            clear HO_181005
            clear HO_183002
            clear HO_183005
            clear HL183_2
            clear HL183_5
            clear BK180
            clear BK181
            clear BK182
            clear HR183_2
            clear HR183_5
            clear HB
            have HO_0 := n0_
            have HO_181002 := n1_
            have HO_181005 := n2_
            have HO_183002 := n3_
            have HO_183005 := n4_
            have HL183_2 := n5_
            have HL183_5 := n6_
            have HO186 := n7_
            have BK180 := n8_
            have BK181 := n9_
            have BK182 := n10_
            have HR183_2 := n11_
            have HR183_5 := n12_
            have HB := n13_
            clear n0_ n1_ n2_ n3_ n4_ n5_ n6_ n7_ n8_ n9_ n10_ n11_ n12_ n13_
            clear hb ho18
            obtain ⟨Ao19, co19, eo19⟩ := Kd.N_slice HO186.out
            (first | subst eo19 | (injection eo19 with f1_ f2_ f3_; have f4_ := f1_.symm; have f5_ := f3_.symm; clear f1_ f2_ f3_; subst f4_; subst f5_))
            refine hK.out _ _ ⟨(blk_cell BK182.out 0).trans rfl, (blk_cell BK182.out 1).trans rfl, (blk_cell BK182.out 2).trans rfl, (blk_cell BK182.out 3).trans rfl, (blk_cell BK182.out 4).trans rfl, (blk_cell BK182.out 5).trans rfl, HS6_, HS7_, HS8_, HS9_, HS10_, HS11_⟩ (fun hHeld => ?_)
            clear hK K
            refine norm_ (a' := ?_) ?_ ?_
            rotate_left
            · show Act.put _ (some 20) _ = _
              simp only [Act.put, List.setIfInBounds_toArray, List.set_cons_zero, List.set_cons_succ, i64_w, i32_w]
              rfl
            refine pure_ (i := 6) (N := some 21) (v := ?_) (a' := ?_) #[true, true, true, true, true, true, true, false] rfl rfl (any_of HT_.out (by kernel_rfl)) (fun _ _ _ h => h) (Or.inl ⟨by rfl, ?_⟩) ?_ ?_
            rotate_left
            · intro w'
              go_simp
              with_reducible rfl
            rotate_left
            · simp only [Act.put, List.setIfInBounds_toArray, List.set_cons_zero, List.set_cons_succ, i64_w, i32_w]
              rfl
            refine last_ (i := 7) (N := none) #[true, true, true, true, true, true, true, true] rfl rfl (one_of HT_.out (by kernel_rfl)) (by decide) (fun K hK => ?_)
            have hs20 : w17.cell? ⟨gb182, 0, none⟩ = some (.int .i64 x183000_1) := (blk_cell BK182.out 0).trans rfl
            have hfs20 := blk_frozen BK182.out 0
            have hns20_0 := NB180_182.out
            have hns20_1 := NB181_182.out
            have hms20_0 := NB182_180.out
            have hms20_1 := NB182_181.out
            have hs21 : w17.cell? ⟨gb182, 1, none⟩ = some (.bool x183001_1) := (blk_cell BK182.out 1).trans rfl
            have hfs21 := blk_frozen BK182.out 1
            have hns21_0 := NB180_182.out
            have hns21_1 := NB181_182.out
            have hms21_0 := NB182_180.out
            have hms21_1 := NB182_181.out
            have hs22 : w17.cell? ⟨gb182, 2, none⟩ = some (.slice Ao15 x183002_1.length co15) := (blk_cell BK182.out 2).trans rfl
            have hfs22 := blk_frozen BK182.out 2
            have hns22_0 := NB180_182.out
            have hns22_1 := NB181_182.out
            have hms22_0 := NB182_180.out
            have hms22_1 := NB182_181.out
            have hs23 : w17.cell? ⟨gb182, 3, none⟩ = some (.string x183003_1) := (blk_cell BK182.out 3).trans rfl
            have hfs23 := blk_frozen BK182.out 3
            have hns23_0 := NB180_182.out
            have hns23_1 := NB181_182.out
            have hms23_0 := NB182_180.out
            have hms23_1 := NB182_181.out
            have hs24 : w17.cell? ⟨gb182, 4, none⟩ = some (.int .i64 x183004_1) := (blk_cell BK182.out 4).trans rfl
            have hfs24 := blk_frozen BK182.out 4
            have hns24_0 := NB180_182.out
            have hns24_1 := NB181_182.out
            have hms24_0 := NB182_180.out
            have hms24_1 := NB182_181.out
            have hs25 : w17.cell? ⟨gb182, 5, none⟩ = some (.slice Ao16 x183005_1.length co16) := (blk_cell BK182.out 5).trans rfl
            have hfs25 := blk_frozen BK182.out 5
            have hns25_0 := NB180_182.out
            have hns25_1 := NB181_182.out
            have hms25_0 := NB182_180.out
            have hms25_1 := NB182_181.out
            refine skip_ (w1 := ?_) (by rfl) rfl ?_ ?_
            rotate_left
            · go_simp
              rfl
            refine hK.out _ _ ?_
            clear hK K
            refine done_ (done_of HT_.out (by kernel_rfl)) ?_
            try go_wp2
            go_roundg k1
            case measure => have := HK1.out; omega
            case rel => exact ⟨(wrap64 (x6_1 - 1)), (4), (false), (([] : List Int)), ((⟨#[]⟩ : ByteArray)), (0), (y184), (.slice none 0 0), (.slice Ao19 y184.length co19), (by first | rfl | (simp; done) | (simp [*]; done)), H', ⟨by have := HK1.out; omega⟩, ⟨by (with_reducible repeat (first | apply Kd.V_alloc | apply Kd.V_drewN | apply Kd.V_drew)); exact Kd.V_mono (Kd.V_far (p := ⟨gb182, 5, none⟩) (Kd.V_far (p := ⟨gb182, 4, none⟩) (Kd.V_far (p := ⟨gb182, 3, none⟩) (Kd.V_far (p := ⟨gb182, 2, none⟩) (Kd.V_far (p := ⟨gb182, 1, none⟩) (Kd.V_far (p := ⟨gb182, 0, none⟩) (Kd.V_mono HO_0.out (fun k_ hk => (⟨hk, hk.1.2.2.2⟩ : _ ∧ k_ ≠ gb182))) (fun _ hk => hk.2) (.int .i64 4)) (fun _ hk => hk.2) (.bool false)) (fun _ hk => hk.2) (.slice none 0 0)) (fun _ hk => hk.2) (.string (⟨#[]⟩ : ByteArray))) (fun _ hk => hk.2) (.int .i64 0)) (fun _ hk => hk.2) (.slice Ao19 y184.length co19)) (fun _ hk => ⟨hk.1.1.1, ⟨hk.1.1.2.1, ⟨hk.1.1.2.2.1, hk.1.1.2.2.2⟩⟩⟩)⟩, ⟨by (with_reducible repeat (first | apply Kd.V_alloc | apply Kd.V_drewN | apply Kd.V_drew)); exact Kd.V_mono (Kd.V_far (p := ⟨gb182, 5, none⟩) (Kd.V_far (p := ⟨gb182, 4, none⟩) (Kd.V_far (p := ⟨gb182, 3, none⟩) (Kd.V_far (p := ⟨gb182, 2, none⟩) (Kd.V_far (p := ⟨gb182, 1, none⟩) (Kd.V_far (p := ⟨gb182, 0, none⟩) (Kd.V_mono HO_181002.out (fun k_ hk => (⟨hk, hk.1.2.2.2⟩ : _ ∧ k_ ≠ gb182))) (fun _ hk => hk.2) (.int .i64 4)) (fun _ hk => hk.2) (.bool false)) (fun _ hk => hk.2) (.slice none 0 0)) (fun _ hk => hk.2) (.string (⟨#[]⟩ : ByteArray))) (fun _ hk => hk.2) (.int .i64 0)) (fun _ hk => hk.2) (.slice Ao19 y184.length co19)) (fun _ hk => ⟨hk.1.1.1, ⟨hk.1.1.2.1, ⟨hk.1.1.2.2.1, hk.1.1.2.2.2⟩⟩⟩)⟩, ⟨by (with_reducible repeat (first | apply Kd.V_alloc | apply Kd.V_drewN | apply Kd.V_drew)); exact Kd.V_mono (Kd.V_far (p := ⟨gb182, 5, none⟩) (Kd.V_far (p := ⟨gb182, 4, none⟩) (Kd.V_far (p := ⟨gb182, 3, none⟩) (Kd.V_far (p := ⟨gb182, 2, none⟩) (Kd.V_far (p := ⟨gb182, 1, none⟩) (Kd.V_far (p := ⟨gb182, 0, none⟩) (Kd.V_mono HO_181005.out (fun k_ hk => (⟨hk, hk.1.2.2.2⟩ : _ ∧ k_ ≠ gb182))) (fun _ hk => hk.2) (.int .i64 4)) (fun _ hk => hk.2) (.bool false)) (fun _ hk => hk.2) (.slice none 0 0)) (fun _ hk => hk.2) (.string (⟨#[]⟩ : ByteArray))) (fun _ hk => hk.2) (.int .i64 0)) (fun _ hk => hk.2) (.slice Ao19 y184.length co19)) (fun _ hk => ⟨hk.1.1.1, ⟨hk.1.1.2.1, ⟨hk.1.1.2.2.1, hk.1.1.2.2.2⟩⟩⟩)⟩, ⟨Kd.V_nil _ _ _ _ _⟩, ⟨Kd.N_V (by (with_reducible repeat (first | apply Kd.N_alloc | apply Kd.N_drewN | apply Kd.N_drew)); exact Kd.N_mono (Kd.N_far (p := ⟨gb182, 5, none⟩) (Kd.N_far (p := ⟨gb182, 4, none⟩) (Kd.N_far (p := ⟨gb182, 3, none⟩) (Kd.N_far (p := ⟨gb182, 2, none⟩) (Kd.N_far (p := ⟨gb182, 1, none⟩) (Kd.N_far (p := ⟨gb182, 0, none⟩) (Kd.N_mono HO186.out (fun k_ hk => (⟨hk, hk.2.2.2⟩ : _ ∧ k_ ≠ gb182))) (fun _ hk => hk.2) (.int .i64 4)) (fun _ hk => hk.2) (.bool false)) (fun _ hk => hk.2) (.slice none 0 0)) (fun _ hk => hk.2) (.string (⟨#[]⟩ : ByteArray))) (fun _ hk => hk.2) (.int .i64 0)) (fun _ hk => hk.2) (.slice Ao19 y184.length co19)) (fun _ hk => ⟨hk.1.1, ⟨hk.1.2.1, ⟨hk.1.2.2.1, hk.1.2.2.2⟩⟩⟩))⟩, ⟨by (with_reducible repeat (first | refine blk_drewN ?_ _ | refine blk_drew ?_ | refine blk_alloc ?_ _)); refine blk_far ?_ NB180_182.out _; (with_reducible repeat (first | refine blk_drewN ?_ _ | refine blk_drew ?_ | refine blk_alloc ?_ _)); refine blk_far ?_ NB180_182.out _; (with_reducible repeat (first | refine blk_drewN ?_ _ | refine blk_drew ?_ | refine blk_alloc ?_ _)); refine blk_far ?_ NB180_182.out _; (with_reducible repeat (first | refine blk_drewN ?_ _ | refine blk_drew ?_ | refine blk_alloc ?_ _)); refine blk_far ?_ NB180_182.out _; (with_reducible repeat (first | refine blk_drewN ?_ _ | refine blk_drew ?_ | refine blk_alloc ?_ _)); refine blk_far ?_ NB180_182.out _; (with_reducible repeat (first | refine blk_drewN ?_ _ | refine blk_drew ?_ | refine blk_alloc ?_ _)); refine blk_far ?_ NB180_182.out _; (with_reducible repeat (first | refine blk_drewN ?_ _ | refine blk_drew ?_ | refine blk_alloc ?_ _)); exact BK180.out⟩, ⟨by (with_reducible repeat (first | refine blk_drewN ?_ _ | refine blk_drew ?_ | refine blk_alloc ?_ _)); refine blk_far ?_ NB181_182.out _; (with_reducible repeat (first | refine blk_drewN ?_ _ | refine blk_drew ?_ | refine blk_alloc ?_ _)); refine blk_far ?_ NB181_182.out _; (with_reducible repeat (first | refine blk_drewN ?_ _ | refine blk_drew ?_ | refine blk_alloc ?_ _)); refine blk_far ?_ NB181_182.out _; (with_reducible repeat (first | refine blk_drewN ?_ _ | refine blk_drew ?_ | refine blk_alloc ?_ _)); refine blk_far ?_ NB181_182.out _; (with_reducible repeat (first | refine blk_drewN ?_ _ | refine blk_drew ?_ | refine blk_alloc ?_ _)); refine blk_far ?_ NB181_182.out _; (with_reducible repeat (first | refine blk_drewN ?_ _ | refine blk_drew ?_ | refine blk_alloc ?_ _)); refine blk_far ?_ NB181_182.out _; (with_reducible repeat (first | refine blk_drewN ?_ _ | refine blk_drew ?_ | refine blk_alloc ?_ _)); exact BK181.out⟩, ⟨by (with_reducible repeat (first | refine blk_drewN ?_ _ | refine blk_drew ?_ | refine blk_alloc ?_ _)); refine blk_put (cs := #[.int .i64 4, .bool false, .slice none 0 0, .string (⟨#[]⟩ : ByteArray), .int .i64 0, .slice Ao16 x183005_1.length co16]) ?_ 5 _ rfl; (with_reducible repeat (first | refine blk_drewN ?_ _ | refine blk_drew ?_ | refine blk_alloc ?_ _)); refine blk_put (cs := #[.int .i64 4, .bool false, .slice none 0 0, .string (⟨#[]⟩ : ByteArray), .int .i64 x183004_1, .slice Ao16 x183005_1.length co16]) ?_ 4 _ rfl; (with_reducible repeat (first | refine blk_drewN ?_ _ | refine blk_drew ?_ | refine blk_alloc ?_ _)); refine blk_put (cs := #[.int .i64 4, .bool false, .slice none 0 0, .string x183003_1, .int .i64 x183004_1, .slice Ao16 x183005_1.length co16]) ?_ 3 _ rfl; (with_reducible repeat (first | refine blk_drewN ?_ _ | refine blk_drew ?_ | refine blk_alloc ?_ _)); refine blk_put (cs := #[.int .i64 4, .bool false, .slice Ao15 x183002_1.length co15, .string x183003_1, .int .i64 x183004_1, .slice Ao16 x183005_1.length co16]) ?_ 2 _ rfl; (with_reducible repeat (first | refine blk_drewN ?_ _ | refine blk_drew ?_ | refine blk_alloc ?_ _)); refine blk_put (cs := #[.int .i64 4, .bool x183001_1, .slice Ao15 x183002_1.length co15, .string x183003_1, .int .i64 x183004_1, .slice Ao16 x183005_1.length co16]) ?_ 1 _ rfl; (with_reducible repeat (first | refine blk_drewN ?_ _ | refine blk_drew ?_ | refine blk_alloc ?_ _)); refine blk_put (cs := #[.int .i64 x183000_1, .bool x183001_1, .slice Ao15 x183002_1.length co15, .string x183003_1, .int .i64 x183004_1, .slice Ao16 x183005_1.length co16]) ?_ 0 _ rfl; (with_reducible repeat (first | refine blk_drewN ?_ _ | refine blk_drew ?_ | refine blk_alloc ?_ _)); exact BK182.out⟩, ⟨by repeat (first | (with_reducible first | exact HB.out | apply below_alloc | apply pw_below_drewN | apply below_drew1 | refine below_set ?_ GE180.out | refine below_set ?_ GE181.out | refine below_set ?_ GE182.out) | exact HB.out)⟩⟩
          · rw [if_neg c13] at H
            exact absurd H (by simp)
        · rw [if_neg c12] at H
          exact absurd H (by simp)
      · rw [if_neg c11] at H
        have c11b0 : decide (0 ≤ x6_1) = false := decide_eq_false c11
        clear c11
        simp only [Option.some.injEq, Prod.mk.injEq] at H
        obtain ⟨rfl, rfl, rfl, rfl, rfl, rfl⟩ := H
        have hnb26 := NB182_180.out
        have hnc26 := NB180_182.out
        have hnb27 := NB182_181.out
        have hnc27 := NB181_182.out
        have hcz28_0 : wr.cell? ⟨gb182, 0, none⟩ = some (.int .i64 x183000_1) := (blk_cell BK182.out 0).trans rfl
        have hcz28_1 : wr.cell? ⟨gb182, 1, none⟩ = some (.bool x183001_1) := (blk_cell BK182.out 1).trans rfl
        have hcz28_2 : wr.cell? ⟨gb182, 2, none⟩ = some (u183002) := (blk_cell BK182.out 2).trans rfl
        have hcz28_3 : wr.cell? ⟨gb182, 3, none⟩ = some (.string x183003_1) := (blk_cell BK182.out 3).trans rfl
        have hcz28_4 : wr.cell? ⟨gb182, 4, none⟩ = some (.int .i64 x183004_1) := (blk_cell BK182.out 4).trans rfl
        have hcz28_5 : wr.cell? ⟨gb182, 5, none⟩ = some (u183005) := (blk_cell BK182.out 5).trans rfl
        have hfz28_0 := blk_frozen BK182.out 0
        have hfz28_1 := blk_frozen BK182.out 1
        have hfz28_2 := blk_frozen BK182.out 2
        have hfz28_3 := blk_frozen BK182.out 3
        have hfz28_4 := blk_frozen BK182.out 4
        have hfz28_5 := blk_frozen BK182.out 5
        have hnb29 := NB181_180.out
        have hnc29 := NB180_181.out
        have hcz30_0 : wr.cell? ⟨gb181, 0, none⟩ = some (.int .i64 0) := (blk_cell BK181.out 0).trans rfl
        have hcz30_1 : wr.cell? ⟨gb181, 1, none⟩ = some (.bool false) := (blk_cell BK181.out 1).trans rfl
        have hcz30_2 : wr.cell? ⟨gb181, 2, none⟩ = some (.slice none 0 0) := (blk_cell BK181.out 2).trans rfl
        have hcz30_3 : wr.cell? ⟨gb181, 3, none⟩ = some (.string (⟨#[]⟩ : ByteArray)) := (blk_cell BK181.out 3).trans rfl
        have hcz30_4 : wr.cell? ⟨gb181, 4, none⟩ = some (.int .i64 0) := (blk_cell BK181.out 4).trans rfl
        have hcz30_5 : wr.cell? ⟨gb181, 5, none⟩ = some (.slice none 0 0) := (blk_cell BK181.out 5).trans rfl
        have hfz30_0 := blk_frozen BK181.out 0
        have hfz30_1 := blk_frozen BK181.out 1
        have hfz30_2 := blk_frozen BK181.out 2
        have hfz30_3 := blk_frozen BK181.out 3
        have hfz30_4 := blk_frozen BK181.out 4
        have hfz30_5 := blk_frozen BK181.out 5
        obtain ⟨Ao31, co31, eo31⟩ := Kd.V_slice HO_183002.out
        subst eo31
        obtain ⟨Ao32, co32, eo32⟩ := Kd.V_slice HO_183005.out
        subst eo32
        go_wp2
        refine bodyPost_ret (results_cell_row rfl _ _ gb181 43 #[.int .i64 x183000_1, .bool x183001_1, .slice Ao31 x183002_1.length co31, .string x183003_1, .int .i64 x183004_1, .slice Ao32 x183005_1.length co32] (0, 0) _ rfl (by (with_reducible repeat (first | refine blk_drewN ?_ _ | refine blk_drew ?_ | refine blk_alloc ?_ _)); refine blk_put (cs := #[.int .i64 x183000_1, .bool x183001_1, .slice Ao31 x183002_1.length co31, .string x183003_1, .int .i64 x183004_1, .slice none 0 0]) ?_ 5 _ rfl; (with_reducible repeat (first | refine blk_drewN ?_ _ | refine blk_drew ?_ | refine blk_alloc ?_ _)); refine blk_put (cs := #[.int .i64 x183000_1, .bool x183001_1, .slice Ao31 x183002_1.length co31, .string x183003_1, .int .i64 0, .slice none 0 0]) ?_ 4 _ rfl; (with_reducible repeat (first | refine blk_drewN ?_ _ | refine blk_drew ?_ | refine blk_alloc ?_ _)); refine blk_put (cs := #[.int .i64 x183000_1, .bool x183001_1, .slice Ao31 x183002_1.length co31, .string (⟨#[]⟩ : ByteArray), .int .i64 0, .slice none 0 0]) ?_ 3 _ rfl; (with_reducible repeat (first | refine blk_drewN ?_ _ | refine blk_drew ?_ | refine blk_alloc ?_ _)); refine blk_put (cs := #[.int .i64 x183000_1, .bool x183001_1, .slice none 0 0, .string (⟨#[]⟩ : ByteArray), .int .i64 0, .slice none 0 0]) ?_ 2 _ rfl; (with_reducible repeat (first | refine blk_drewN ?_ _ | refine blk_drew ?_ | refine blk_alloc ?_ _)); refine blk_put (cs := #[.int .i64 x183000_1, .bool false, .slice none 0 0, .string (⟨#[]⟩ : ByteArray), .int .i64 0, .slice none 0 0]) ?_ 1 _ rfl; (with_reducible repeat (first | refine blk_drewN ?_ _ | refine blk_drew ?_ | refine blk_alloc ?_ _)); refine blk_put (cs := #[.int .i64 0, .bool false, .slice none 0 0, .string (⟨#[]⟩ : ByteArray), .int .i64 0, .slice none 0 0]) ?_ 0 _ rfl; (with_reducible repeat (first | refine blk_drewN ?_ _ | refine blk_drew ?_ | refine blk_alloc ?_ _)); exact BK181.out) Try.underlying43 rfl (by kernel_rfl)) rfl ?_
        exact ⟨_, _, by first | rfl | (simp [errW_none, errW_some] <;> rfl) | (simp [*, errW_none, errW_some] <;> rfl), by (with_reducible repeat (first | apply Kd.V_alloc | apply Kd.V_drewN | apply Kd.V_drew)); exact Kd.V_mono (Kd.V_far (p := ⟨gb181, 5, none⟩) (Kd.V_far (p := ⟨gb181, 4, none⟩) (Kd.V_far (p := ⟨gb181, 3, none⟩) (Kd.V_far (p := ⟨gb181, 2, none⟩) (Kd.V_far (p := ⟨gb181, 1, none⟩) (Kd.V_far (p := ⟨gb181, 0, none⟩) (Kd.V_mono HO_183002.out (fun k_ hk => (⟨hk, hk.2.2.1⟩ : _ ∧ k_ ≠ gb181))) (fun _ hk => hk.2) (.int .i64 x183000_1)) (fun _ hk => hk.2) (.bool x183001_1)) (fun _ hk => hk.2) (.slice Ao31 x183002_1.length co31)) (fun _ hk => hk.2) (.string x183003_1)) (fun _ hk => hk.2) (.int .i64 x183004_1)) (fun _ hk => hk.2) (.slice Ao32 x183005_1.length co32)) (fun _ hk => hk.1.1), by (with_reducible repeat (first | apply Kd.V_alloc | apply Kd.V_drewN | apply Kd.V_drew)); exact Kd.V_mono (Kd.V_far (p := ⟨gb181, 5, none⟩) (Kd.V_far (p := ⟨gb181, 4, none⟩) (Kd.V_far (p := ⟨gb181, 3, none⟩) (Kd.V_far (p := ⟨gb181, 2, none⟩) (Kd.V_far (p := ⟨gb181, 1, none⟩) (Kd.V_far (p := ⟨gb181, 0, none⟩) (Kd.V_mono HO_183005.out (fun k_ hk => (⟨hk, hk.2.2.1⟩ : _ ∧ k_ ≠ gb181))) (fun _ hk => hk.2) (.int .i64 x183000_1)) (fun _ hk => hk.2) (.bool x183001_1)) (fun _ hk => hk.2) (.slice Ao31 x183002_1.length co31)) (fun _ hk => hk.2) (.string x183003_1)) (fun _ hk => hk.2) (.int .i64 x183004_1)) (fun _ hk => hk.2) (.slice Ao32 x183005_1.length co32)) (fun _ hk => hk.1.1), by repeat (first | (with_reducible first | exact HB.out | apply below_alloc | apply pw_below_drewN | apply below_drew1 | refine below_set ?_ GE180.out | refine below_set ?_ GE181.out | refine below_set ?_ GE182.out) | exact HB.out)⟩

end Go.Proofs.Ytlifdpfhepamfaa.PHe
