-- Printed by the kit's print.py from a list of bodies that this session turned in four places; parts of it are this session's own.
import Derived.Test.YtlifdpfhepamfaaPHe0
import Derived.Test.YtlifdpfhepamfaaPHe4
import Derived.Test.YtlifdpfhepamfaaPHe7
namespace Go.Proofs.Ytlifdpfhepamfaa.PHe
open Go.RowKit Go.Proofs.YtlifdpfhepamfaaW.PrintWords Go.Proofs.YtlifdpfhepamfaaW.PrintLast Go.Proofs.YtlifdpfhepamfaaW.PrintMore
attribute [local go_sem] max2_int min2_int max_two min_two max_three min_three max_four min_four   -- for this text's walks alone
set_option linter.unusedVariables false
set_option linter.unusedSimpArgs false

/-! ### relictref01_Shl: function 134 -/
theorem sh_mod {x j : Int} (h : (IntKind.u64.wrap (Int.tmod x 32)) = j) (h0 : 0 ≤ x ∧ x ≤ 4096) : x % 32 = j := by
  rw [Int.tmod_eq_emod_of_nonneg h0.1] at h
  rw [← h]
  simp [IntKind.wrap, IntKind.bits, IntKind.signed]
  omega
theorem sh_div {a x j : Int} (h : (wrap64 (a + (wrap64 (Int.tdiv x 32)))) = j) (h0 : 0 ≤ x ∧ x ≤ 4096) : wrap64 (a + x / 32) = j := by
  rw [Int.tdiv_eq_ediv_of_nonneg h0.1] at h
  rw [← h]
  congr 2
  unfold wrap64
  omega
theorem sh_bd {a i j : Int} (h : mx a 0 = i) (h1 : mn i 4096 = j) : 0 ≤ j ∧ j ≤ 4096 := by
  subst h; subst h1
  unfold mx mn
  (repeat' split) <;> omega
theorem sh_le {x j : Int} (h : x % 32 = j) : j ≤ 64 := by omega
def relictref01_Shl.l0 : Nat → List Int → Int → List Int → Int → Option (List Int)
  | 0, _, _, _, _ => none
  | k + 1, x0, x5, x6, x7 => if x7 < (x0.length : Int) then (if 0 ≤ x7 then (if 0 ≤ (IntKind.u64.wrap (Int.tmod x5 32)) then (if 0 ≤ (wrap64 (x7 + (wrap64 (Int.tdiv x5 32)))) then (if (wrap64 (x7 + (wrap64 (Int.tdiv x5 32)))) < (x6.length : Int) then ((some (x6.set ((wrap64 (x7 + (wrap64 (Int.tdiv x5 32)))) : Int).toNat (Go.bits .or .u32 (rd x6 (wrap64 (x7 + (wrap64 (Int.tdiv x5 32))))) ((shl .u64 (IntKind.u64.wrap (rd x0 x7)) (IntKind.u64.wrap (Int.tmod x5 32))) % 4294967296)) : List Int)).bind fun y360 => (if 0 ≤ (wrap64 ((wrap64 (x7 + (wrap64 (Int.tdiv x5 32)))) + 1)) then (if (wrap64 ((wrap64 (x7 + (wrap64 (Int.tdiv x5 32)))) + 1)) < (x6.length : Int) then (relictref01_Shl.l0 k x0 x5 (y360.set ((wrap64 ((wrap64 (x7 + (wrap64 (Int.tdiv x5 32)))) + 1)) : Int).toNat (Go.bits .or .u32 (rd y360 (wrap64 ((wrap64 (x7 + (wrap64 (Int.tdiv x5 32)))) + 1))) (((shl .u64 (IntKind.u64.wrap (rd x0 x7)) (IntKind.u64.wrap (Int.tmod x5 32))) / 4294967296) % 4294967296))) (wrap64 (x7 + 1))) else (none)) else (none))) else (none)) else (none)) else (none)) else (none)) else ((relictref01_Norm.f k x6).bind fun t363 => (some t363))
def relictref01_Shl.f (k : Nat) (l0 : List Int) (a1 : Int) : Option (List Int) := if 0 ≤ (wrap64 ((wrap64 ((l0.length : Int) + ((mn (mx a1 0) 4096) / 32))) + 1)) then (if (wrap64 ((wrap64 ((l0.length : Int) + ((mn (mx a1 0) 4096) / 32))) + 1) : Int).toNat ≤ 70368744177664 then (relictref01_Shl.l0 k l0 (mn (mx a1 0) 4096) (List.replicate (wrap64 ((wrap64 ((l0.length : Int) + ((mn (mx a1 0) 4096) / 32))) + 1) : Int).toNat 0) 0) else (none)) else (none)
theorem relictref01_Shl.mono_l : ∀ k, (∀ y0 y1 y2 y3, LeO (relictref01_Shl.l0 k y0 y1 y2 y3) (relictref01_Shl.l0 (k + 1) y0 y1 y2 y3))
  | 0 => fun _ _ _ _ r h => by simp [relictref01_Shl.l0] at h
  | k + 1 => by
    have ih0 := relictref01_Shl.mono_l k
    · intro y0 y1 y2 y3
      unfold relictref01_Shl.l0
      repeat' first
      | (with_reducible exact ih0 _ _ _ _)
      | (with_reducible exact relictref01_Norm.mono _ _)
      | (with_reducible exact LeO.refl _)
      | (with_reducible exact LeO.none _)
      | (with_reducible refine LeO.ite ?_ ?_)
      | (with_reducible refine LeO.bind ?_ (fun _ => ?_))
      | exact ih0 _ _ _ _
      | exact relictref01_Norm.mono _ _
      | exact LeO.none _
      | refine LeO.ite ?_ ?_
      | refine LeO.bind ?_ (fun _ => ?_)
theorem relictref01_Shl.mono : ∀ a0 a1 k, LeO (relictref01_Shl.f k a0 a1) (relictref01_Shl.f (k + 1) a0 a1) := by
  intro a0 a1 k
  have ih0 := relictref01_Shl.mono_l k
  unfold relictref01_Shl.f
  repeat' first
      | (with_reducible exact ih0 _ _ _ _)
      | (with_reducible exact relictref01_Norm.mono _ _)
      | (with_reducible exact LeO.refl _)
      | (with_reducible exact LeO.none _)
      | (with_reducible refine LeO.ite ?_ ?_)
      | (with_reducible refine LeO.bind ?_ (fun _ => ?_))
      | exact ih0 _ _ _ _
      | exact relictref01_Norm.mono _ _
      | exact LeO.none _
      | refine LeO.ite ?_ ?_
      | refine LeO.bind ?_ (fun _ => ?_)
set_option maxHeartbeats 8000000 in
set_option maxRecDepth 100000 in
theorem relictref01_Shl.calls (k : Nat) (A0 : Option Addr) (c0 : Nat) (l0 : List Int) (a1 : Int) (r : List Int) (w : World) (hr0 : Kd.C (Kd.int .u32) w A0 l0.length l0) (hc0 : l0.length ≤ c0) (h : relictref01_Shl.f k l0 a1 = some r) :
    Calls Try.prog 134 #[.slice A0 l0.length c0, .int .i64 a1] w fun e w' => ∃ v0_ : Value, e = .returned (v0_) ∧ Kd.R (Kd.int .u32) 102 w' w.heap.size (fun _ => True) v0_ r ∧ Below w.heap.size w w' := by
  have HR0 := Aside0.mk hr0
  have HC0 := Aside0.mk hc0
  clear hr0 hc0
  have HB := Aside0.mk (Below.refl w.heap.size w)
  have H : (if 0 ≤ (wrap64 ((wrap64 ((l0.length : Int) + ((mn (mx a1 0) 4096) / 32))) + 1)) then (if (wrap64 ((wrap64 ((l0.length : Int) + ((mn (mx a1 0) 4096) / 32))) + 1) : Int).toNat ≤ 70368744177664 then (relictref01_Shl.l0 k l0 (mn (mx a1 0) 4096) (List.replicate (wrap64 ((wrap64 ((l0.length : Int) + ((mn (mx a1 0) 4096) / 32))) + 1) : Int).toNat 0) 0) else (none)) else (none)) = some r := h
  clear h
  obtain ⟨ji3, hji3⟩ : ∃ j_ : Int, (mx a1 0) = j_ := ⟨_, rfl⟩
  replace H : (if 0 ≤ (wrap64 ((wrap64 ((l0.length : Int) + ((mn (ji3) 4096) / 32))) + 1)) then (if (wrap64 ((wrap64 ((l0.length : Int) + ((mn (ji3) 4096) / 32))) + 1) : Int).toNat ≤ 70368744177664 then (relictref01_Shl.l0 k l0 (mn (ji3) 4096) (List.replicate (wrap64 ((wrap64 ((l0.length : Int) + ((mn (ji3) 4096) / 32))) + 1) : Int).toNat 0) 0) else (none)) else (none)) = some r := by first | (rw [hji3] at H; exact H) | (simp only [hji3] at H ⊢; exact H)
  (try (have hji3l : 0 ≤ ji3 := by (rw [← hji3]; unfold mx; (repeat' split) <;> omega)))
  (try (have hji3m : 0 ≤ ji3 := by omega))
  have hji3_ : (if a1 < 0 then 0 else a1) = ji3 := hji3
  obtain ⟨ji4, hji4⟩ : ∃ j_ : Int, (mn (ji3) 4096) = j_ := ⟨_, rfl⟩
  replace H : (if 0 ≤ (wrap64 ((wrap64 ((l0.length : Int) + ((ji4) / 32))) + 1)) then (if (wrap64 ((wrap64 ((l0.length : Int) + ((ji4) / 32))) + 1) : Int).toNat ≤ 70368744177664 then (relictref01_Shl.l0 k l0 ji4 (List.replicate (wrap64 ((wrap64 ((l0.length : Int) + ((ji4) / 32))) + 1) : Int).toNat 0) 0) else (none)) else (none)) = some r := by first | (rw [hji4] at H; exact H) | (simp only [hji4] at H ⊢; exact H)
  have hji4_ : (if 4096 < (ji3) then 4096 else (ji3)) = ji4 := hji4
  obtain ⟨ji5, hji5⟩ : ∃ j_ : Int, (wrap64 ((wrap64 ((l0.length : Int) + ((ji4) / 32))) + 1)) = j_ := ⟨_, rfl⟩
  replace H : (if 0 ≤ (ji5) then (if (ji5 : Int).toNat ≤ 70368744177664 then (relictref01_Shl.l0 k l0 ji4 (List.replicate (ji5 : Int).toNat 0) 0) else (none)) else (none)) = some r := by first | (rw [hji5] at H; exact H) | (simp only [hji5] at H ⊢; exact H)
  have hji5w : (IntKind.i64.wrap ((wrap64 ((l0.length : Int) + ((ji4) / 32))) + 1)) = ji5 := (i64_w _).trans hji5
  by_cases c6 : 0 ≤ (ji5)
  · rw [if_pos c6] at H
    have c6b0 := eq_true c6
    have c6b1 : decide (0 ≤ (ji5)) = true := decide_eq_true c6
    clear c6
    by_cases c7 : (ji5 : Int).toNat ≤ 70368744177664
    · rw [if_pos c7] at H
      have c7b0 := eq_true c7
      have c7b1 : decide ((ji5 : Int).toNat ≤ 70368744177664) = true := decide_eq_true c7
      clear c7
      obtain ⟨y355, hy355⟩ : ∃ y_ : List Int, y_ = (List.replicate (ji5 : Int).toNat 0) := ⟨_, rfl⟩
      replace H : (relictref01_Shl.l0 k l0 ji4 y355 0) = some r := by first | (rw [hy355]; with_reducible exact H) | (have H2_ := (Option.bind_some _ _).symm.trans H; rw [hy355]; with_reducible exact H2_) | (have H2_ := (Option.bind_some _ _).symm.trans H; with_reducible exact H2_) | with_reducible exact H | (rw [hy355]; exact H) | exact H
      have Ny355 := Aside0.mk hy355
      clear hy355
      have H' := Aside0.mk H
      clear H
      go_enter Try.func134, Try.ntmps134
      go_wp2_with (first | ((with_reducible refine gate_dst (N := 18) rfl ?_); refine Kd.R_make (Kd.int .u32) _ 102 rfl (N := 18) rfl 39 _ _ rfl ji5 rfl rfl Try.underlying39 (.int .u32 0) 4 info102 rfl (by decide) (by omega) 0 (ok := fun _ => True) (okp := fun _ => True) rfl (fun _ hk => hk) trivial (of_decide_eq_true (by first | (with_reducible assumption) | assumption)) (Nat.le_trans (Nat.mul_le_mul_right _ (of_decide_eq_true (by first | (with_reducible assumption) | assumption) : ji5.toNat ≤ 70368744177664)) (by omega)) (Below.refl _ _) (Nat.le_refl _) ?_; intro v356 w8 ho9 hb hg_ hnew_; clear hg_ hnew_; (first | rw [← Ny355.out] at ho9 | (simp only [Int.reduceToNat] at ho9; rw [← Ny355.out] at ho9)); have n0_ := Aside0.mk (Kd.R_lower ho9 (below_size (by repeat (first | (with_reducible first | exact HB.out | apply below_alloc | apply pw_below_drewN | apply below_drew1) | exact HB.out)))); have n1_ := Aside0.mk (below_step (by repeat (first | (with_reducible first | exact HB.out | apply below_alloc | apply pw_below_drewN | apply below_drew1) | exact HB.out)) hb); clear HB; have HO357 := n0_; have HB := n1_; clear n0_ n1_; clear hb ho9))
      go_loopg [7] k (fun kq v7 w' => ∃ (x6_1 : List Int) (x7_1 : Int), v7 = .int .i64 x7_1 ∧ Aside0 (relictref01_Shl.l0 kq l0 ji4 x6_1 x7_1 = some r) ∧ Aside0 (kq ≤ k) ∧ Aside0 (Kd.R (Kd.int .u32) 102 w' w.heap.size (fun _ => True) v356 x6_1) ∧ Aside0 (Below w.heap.size w w'))
      case atStart => exact ⟨(y355), (0), (by first | rfl | (simp; done) | (simp [*]; done)), H', ⟨Nat.le_refl _⟩, ⟨by (with_reducible repeat (first | apply Kd.R_alloc | apply Kd.R_drewN | apply Kd.R_drew)); exact HO357.out⟩, ⟨by repeat (first | (with_reducible first | exact HB.out | apply below_alloc | apply pw_below_drewN | apply below_drew1) | exact HB.out)⟩⟩
      case round =>
        clear H'
        try clear c1
        try clear p2
        try clear c6
        try clear c6b0
        try clear c6b1
        try clear p6
        try clear c7
        try clear c7b0
        try clear c7b1
        obtain ⟨x6_1, x7_1, rfl, HA, HK1, HO_6, HB⟩ := hrel
        cases gk with
        | zero => exact absurd HA.out (by simp [relictref01_Shl.l0])
        | succ k1 =>
          have H := HA.out
          clear HA
          simp only [relictref01_Shl.l0] at H
          by_cases c10 : x7_1 < (l0.length : Int)
          · rw [if_pos c10] at H
            have c10b0 : decide (x7_1 < (l0.length : Int)) = true := decide_eq_true c10
            clear c10
            by_cases c11 : 0 ≤ x7_1
            · rw [if_pos c11] at H
              have c11b0 : decide (0 ≤ x7_1) = true := decide_eq_true c11
              clear c11
              obtain ⟨ji12, hji12⟩ : ∃ j_ : Int, (IntKind.u64.wrap (Int.tmod ji4 32)) = j_ := ⟨_, rfl⟩
              have hji12v := sh_mod hji12 (sh_bd hji3 hji4)
              replace H : (if 0 ≤ (ji12) then (if 0 ≤ (wrap64 (x7_1 + (wrap64 (Int.tdiv ji4 32)))) then (if (wrap64 (x7_1 + (wrap64 (Int.tdiv ji4 32)))) < (x6_1.length : Int) then ((some (x6_1.set ((wrap64 (x7_1 + (wrap64 (Int.tdiv ji4 32)))) : Int).toNat (Go.bits .or .u32 (rd x6_1 (wrap64 (x7_1 + (wrap64 (Int.tdiv ji4 32))))) ((shl .u64 (IntKind.u64.wrap (rd l0 x7_1)) (ji12)) % 4294967296)) : List Int)).bind fun y360 => (if 0 ≤ (wrap64 ((wrap64 (x7_1 + (wrap64 (Int.tdiv ji4 32)))) + 1)) then (if (wrap64 ((wrap64 (x7_1 + (wrap64 (Int.tdiv ji4 32)))) + 1)) < (x6_1.length : Int) then (relictref01_Shl.l0 k1 l0 ji4 (y360.set ((wrap64 ((wrap64 (x7_1 + (wrap64 (Int.tdiv ji4 32)))) + 1)) : Int).toNat (Go.bits .or .u32 (rd y360 (wrap64 ((wrap64 (x7_1 + (wrap64 (Int.tdiv ji4 32)))) + 1))) (((shl .u64 (IntKind.u64.wrap (rd l0 x7_1)) (ji12)) / 4294967296) % 4294967296))) (wrap64 (x7_1 + 1))) else (none)) else (none))) else (none)) else (none)) else (none)) = some r := by first | (rw [hji12] at H; exact H) | (simp only [hji12] at H ⊢; exact H)
              by_cases c13 : 0 ≤ (ji12)
              · rw [if_pos c13] at H
                have c13b0 := eq_true c13
                have c13b1 : decide (0 ≤ (ji12)) = true := decide_eq_true c13
                clear c13
                obtain ⟨ji14, hji14⟩ : ∃ j_ : Int, (shl .u64 (IntKind.u64.wrap (rd l0 x7_1)) (ji12)) = j_ := ⟨_, rfl⟩
                replace H : (if 0 ≤ (wrap64 (x7_1 + (wrap64 (Int.tdiv ji4 32)))) then (if (wrap64 (x7_1 + (wrap64 (Int.tdiv ji4 32)))) < (x6_1.length : Int) then ((some (x6_1.set ((wrap64 (x7_1 + (wrap64 (Int.tdiv ji4 32)))) : Int).toNat (Go.bits .or .u32 (rd x6_1 (wrap64 (x7_1 + (wrap64 (Int.tdiv ji4 32))))) ((ji14) % 4294967296)) : List Int)).bind fun y360 => (if 0 ≤ (wrap64 ((wrap64 (x7_1 + (wrap64 (Int.tdiv ji4 32)))) + 1)) then (if (wrap64 ((wrap64 (x7_1 + (wrap64 (Int.tdiv ji4 32)))) + 1)) < (x6_1.length : Int) then (relictref01_Shl.l0 k1 l0 ji4 (y360.set ((wrap64 ((wrap64 (x7_1 + (wrap64 (Int.tdiv ji4 32)))) + 1)) : Int).toNat (Go.bits .or .u32 (rd y360 (wrap64 ((wrap64 (x7_1 + (wrap64 (Int.tdiv ji4 32)))) + 1))) (((ji14) / 4294967296) % 4294967296))) (wrap64 (x7_1 + 1))) else (none)) else (none))) else (none)) else (none)) = some r := by first | (rw [hji14] at H; exact H) | (simp only [hji14] at H ⊢; exact H)
                have hji14_ : (IntKind.u64.wrap ((IntKind.u64.wrap (rd l0 x7_1)) * 2 ^ min (ji12).toNat 64)) = ji14 := hji14
                have hji14z : (ji12) ≤ 64 → (IntKind.u64.wrap ((IntKind.u64.wrap (rd l0 x7_1)) * 2 ^ (ji12).toNat)) = ji14 := shl_small hji14
                have hji14y := hji14z (sh_le hji12v)
                obtain ⟨ji15, hji15⟩ : ∃ j_ : Int, (wrap64 (x7_1 + (wrap64 (Int.tdiv ji4 32)))) = j_ := ⟨_, rfl⟩
                have hji15v := sh_div hji15 (sh_bd hji3 hji4)
                replace H : (if 0 ≤ (ji15) then (if (ji15) < (x6_1.length : Int) then ((some (x6_1.set ((ji15) : Int).toNat (Go.bits .or .u32 (rd x6_1 (ji15)) ((ji14) % 4294967296)) : List Int)).bind fun y360 => (if 0 ≤ (wrap64 ((ji15) + 1)) then (if (wrap64 ((ji15) + 1)) < (x6_1.length : Int) then (relictref01_Shl.l0 k1 l0 ji4 (y360.set ((wrap64 ((ji15) + 1)) : Int).toNat (Go.bits .or .u32 (rd y360 (wrap64 ((ji15) + 1))) (((ji14) / 4294967296) % 4294967296))) (wrap64 (x7_1 + 1))) else (none)) else (none))) else (none)) else (none)) = some r := by first | (rw [hji15] at H; exact H) | (simp only [hji15] at H ⊢; exact H)
                have hji15w : (IntKind.i64.wrap (x7_1 + (wrap64 (Int.tdiv ji4 32)))) = ji15 := (i64_w _).trans hji15
                by_cases c16 : 0 ≤ (ji15)
                · rw [if_pos c16] at H
                  have c16b0 : decide (0 ≤ (ji15)) = true := decide_eq_true c16
                  clear c16
                  by_cases c17 : (ji15) < (x6_1.length : Int)
                  · rw [if_pos c17] at H
                    have c17b0 : decide ((ji15) < (x6_1.length : Int)) = true := decide_eq_true c17
                    clear c17
                    obtain ⟨y360, hy360⟩ : ∃ y_ : List Int, y_ = (x6_1.set ((ji15) : Int).toNat (Go.bits .or .u32 (rd x6_1 (ji15)) ((ji14) % 4294967296))) := ⟨_, rfl⟩
                    replace H : (if 0 ≤ (wrap64 ((ji15) + 1)) then (if (wrap64 ((ji15) + 1)) < (x6_1.length : Int) then (relictref01_Shl.l0 k1 l0 ji4 (y360.set ((wrap64 ((ji15) + 1)) : Int).toNat (Go.bits .or .u32 (rd y360 (wrap64 ((ji15) + 1))) (((ji14) / 4294967296) % 4294967296))) (wrap64 (x7_1 + 1))) else (none)) else (none)) = some r := by first | (rw [hy360]; with_reducible exact H) | (have H2_ := (Option.bind_some _ _).symm.trans H; rw [hy360]; with_reducible exact H2_) | (have H2_ := (Option.bind_some _ _).symm.trans H; with_reducible exact H2_) | with_reducible exact H | (rw [hy360]; exact H) | exact H
                    have Ny360 := Aside0.mk hy360
                    clear hy360
                    obtain ⟨ji19, hji19⟩ : ∃ j_ : Int, (wrap64 ((ji15) + 1)) = j_ := ⟨_, rfl⟩
                    replace H : (if 0 ≤ (ji19) then (if (ji19) < (x6_1.length : Int) then (relictref01_Shl.l0 k1 l0 ji4 (y360.set ((ji19) : Int).toNat (Go.bits .or .u32 (rd y360 (ji19)) (((ji14) / 4294967296) % 4294967296))) (wrap64 (x7_1 + 1))) else (none)) else (none)) = some r := by first | (rw [hji19] at H; exact H) | (simp only [hji19] at H ⊢; exact H)
                    have hji19w : (IntKind.i64.wrap ((ji15) + 1)) = ji19 := (i64_w _).trans hji19
                    by_cases c20 : 0 ≤ (ji19)
                    · rw [if_pos c20] at H
                      have c20b0 : decide (0 ≤ (ji19)) = true := decide_eq_true c20
                      clear c20
                      by_cases c21 : (ji19) < (x6_1.length : Int)
                      · rw [if_pos c21] at H
                        have c21b0 : decide ((ji19) < (x6_1.length : Int)) = true := decide_eq_true c21
                        clear c21
                        obtain ⟨y362, hy362⟩ : ∃ y_ : List Int, y_ = (y360.set ((ji19) : Int).toNat (Go.bits .or .u32 (rd y360 (ji19)) (((ji14) / 4294967296) % 4294967296))) := ⟨_, rfl⟩
                        replace H : (relictref01_Shl.l0 k1 l0 ji4 y362 (wrap64 (x7_1 + 1))) = some r := by first | (rw [hy362]; with_reducible exact H) | (have H2_ := (Option.bind_some _ _).symm.trans H; rw [hy362]; with_reducible exact H2_) | (have H2_ := (Option.bind_some _ _).symm.trans H; with_reducible exact H2_) | with_reducible exact H | (rw [hy362]; exact H) | exact H
                        have Ny362 := Aside0.mk hy362
                        clear hy362
                        have H' := Aside0.mk H
                        clear H
                        have p358 : 0 ≤ (x7_1 : Int) := of_decide_eq_true (by first | (with_reducible assumption) | assumption)
                        have q358 : x7_1 < (l0.length : Int) := of_decide_eq_true (by first | (with_reducible assumption) | assumption)
                        obtain ⟨ad358, e358, hx358_0⟩ := Kd.at_int HR0.out x7_1 p358 q358
                        cases e358
                        replace hx358_0 := (HB.out.cell (World.block_lt_of_cell? w _ hx358_0)).trans hx358_0
                        replace p358 := eq_true p358
                        replace q358 := eq_true q358
                        obtain ⟨Ao23, co23, eo23⟩ := Kd.R_slice HO_6.out
                        subst eo23
                        have p359 : 0 ≤ ((ji15) : Int) := of_decide_eq_true (by first | (with_reducible assumption) | assumption)
                        have q359 : (ji15) < (x6_1.length : Int) := of_decide_eq_true (by first | (with_reducible assumption) | assumption)
                        obtain ⟨ad359, e359, hx359_0⟩ := Kd.at_int (Kd.R_reads' HO_6.out).2.2 (ji15) p359 q359
                        cases e359
                        replace p359 := eq_true p359
                        replace q359 := eq_true q359
                        have p18 : 0 ≤ ((ji15) : Int) := of_decide_eq_true (by first | (with_reducible assumption) | assumption)
                        have q18 : ((ji15) : Int) < ((x6_1.length : Int) : Int) := of_decide_eq_true (by first | (with_reducible assumption) | assumption)
                        obtain ⟨go18, co18, eo18, gb18, gl18, cl18, HG18⟩ := Kd.R_form HO_6.out (by omega)
                        (first | cases eo18 | (injection eo18 with ea_ en_ ec_; (first | subst ea_ | (injection ea_ with ea_; subst ea_)); subst ec_; clear en_))
                        have GB18 := Aside0.mk gb18
                        have GG18 := Aside0.mk HG18
                        clear gb18 gl18 HG18
                        (first | simp only [add_plain] at hx359_0 | skip)
                        obtain ⟨hx18_0, hf18_0⟩ := Kd.R_celln 0 HO_6.out ((ji15) : Int) p18 q18
                        replace p18 := eq_true p18
                        replace q18 := eq_true q18
                        have HP24 := Kd.R_putg HO_6.out ((ji15) : Int) (Go.bits .or .u32 (rd x6_1 (ji15)) ((ji14) % 4294967296))
                        go_wp2_with (first | ((with_reducible refine gate_store (t := 102) (p := 49) rfl ?_); refine store_event (t := 102) (p := 49) (v := ?vo_w25) (w1 := (wr.setCell ⟨go18, ((ji15) : Int).toNat, none⟩ (.int .u32 (Go.bits .or .u32 (rd x6_1 (ji15)) ((ji14) % 4294967296))))) ?hg ?ho ?hn ?hr ?_; (case ho => rfl); (case hg => rfl); (case hn => rfl); (case hr => first | (go_simp; done) | (go_simp; rfl)); intro w25 hw; have hg : wr.grownBy w25 (some go18) := (by rw [hw]; exact HP24.2); have hp_ : Kd.R (Kd.int .u32) 102 w25 w.heap.size (fun _ => True) (.slice (some ⟨go18, 0, none⟩) x6_1.length co23) y360 := (by rw [hw, Ny360.out]; exact HP24.1); clear HP24; have n0_ := Aside0.mk (hp_); have n1_ := Aside0.mk ((by rw [hw]; exact below_set (HB.out) GB18.out : Below w.heap.size w w25)); clear HO_6; clear HB; have HO_6 := n0_; have HB := n1_; clear n0_ n1_; clear hg hw hp_; have p361 : 0 ≤ ((ji19) : Int) := of_decide_eq_true (by first | (with_reducible assumption) | assumption); have q361 : (ji19) < (y360.length : Int) := (by have h_ : ((ji19) : Int) < ((x6_1.length : Int) : Int) := of_decide_eq_true (by first | (with_reducible assumption) | assumption); first | (have e_ := (Kd.R_reads' HO_6.out).1; omega) | simpa only [Ny360.out, List.length_set] using h_); have ql361 : (((ji19) : Int) < ((x6_1.length : Int) : Int)) = True := eq_true (of_decide_eq_true (by first | (with_reducible assumption) | assumption)); obtain ⟨ad361, e361, hx361_0⟩ := Kd.at_int (Kd.R_reads' HO_6.out).2.2 (ji19) p361 q361; obtain rfl : (⟨go18, 0, none⟩ : Addr) = ad361 := (by injection e361); (first | simp only [add_plain] at hx361_0 | simp only [add_at] at hx361_0 | simp only [Addr.add, Nat.zero_add] at hx361_0 | skip); replace p361 := eq_true p361; replace q361 := eq_true q361; have p22 : 0 ≤ ((ji19) : Int) := of_decide_eq_true (by first | (with_reducible assumption) | assumption); have q22 : ((ji19) : Int) < ((x6_1.length : Int) : Int) := of_decide_eq_true (by first | (with_reducible assumption) | assumption); obtain ⟨hx22_0, hf22_0⟩ := Kd.R_celln 0 HO_6.out ((ji19) : Int) p22 q22; replace p22 := eq_true p22; replace q22 := eq_true q22; obtain ⟨hy26_, hz26_⟩ := Kd.R_celln 0 HO_6.out ((ji19) : Int) (of_decide_eq_true (by first | (with_reducible assumption) | assumption)) (of_decide_eq_true (by first | (with_reducible assumption) | assumption)); have HP26 := Kd.R_putg HO_6.out ((ji19) : Int) (Go.bits .or .u32 (rd y360 (ji19)) (((ji14) / 4294967296) % 4294967296))) | ((with_reducible refine gate_store (t := 102) (p := 68) rfl ?_); refine store_event (t := 102) (p := 68) (v := ?vo_w27) (w1 := (w25.setCell ⟨go18, ((ji19) : Int).toNat, none⟩ (.int .u32 (Go.bits .or .u32 (rd y360 (ji19)) (((ji14) / 4294967296) % 4294967296))))) ?hg ?ho ?hn ?hr ?_; (case ho => rfl); (case hg => rfl); (case hn => rfl); (case hr => first | (go_simp; done) | (go_simp; rfl)); intro w27 hw; have hg : w25.grownBy w27 (some go18) := (by rw [hw]; exact HP26.2); have hp_ : Kd.R (Kd.int .u32) 102 w27 w.heap.size (fun _ => True) (.slice (some ⟨go18, 0, none⟩) x6_1.length co23) y362 := (by rw [hw, Ny362.out]; exact HP26.1); clear HP26; have n0_ := Aside0.mk (hp_); have n1_ := Aside0.mk ((by rw [hw]; exact below_set (HB.out) GB18.out : Below w.heap.size w w27)); clear HO_6; clear HB; have HO_6 := n0_; have HB := n1_; clear n0_ n1_; clear hg hw hp_))
                        go_roundg k1
                        case measure => have := HK1.out; omega
                        case rel => exact ⟨(y362), (wrap64 (x7_1 + 1)), (by first | rfl | (simp; done) | (simp [*]; done)), H', ⟨by have := HK1.out; omega⟩, ⟨by (with_reducible repeat (first | apply Kd.R_alloc | apply Kd.R_drewN | apply Kd.R_drew)); exact HO_6.out⟩, ⟨by repeat (first | (with_reducible first | exact HB.out | apply below_alloc | apply pw_below_drewN | apply below_drew1) | exact HB.out)⟩⟩
                      · rw [if_neg c21] at H
                        exact absurd H (by simp)
                    · rw [if_neg c20] at H
                      exact absurd H (by simp)
                  · rw [if_neg c17] at H
                    exact absurd H (by simp)
                · rw [if_neg c16] at H
                  exact absurd H (by simp)
              · rw [if_neg c13] at H
                exact absurd H (by simp)
            · rw [if_neg c11] at H
              exact absurd H (by simp)
          · rw [if_neg c10] at H
            have c10b0 : decide (x7_1 < (l0.length : Int)) = false := decide_eq_false c10
            clear c10
            replace H := Option.bind_eq_some_iff.mp H
            obtain ⟨t363, A280, H⟩ := H
            replace H : (some t363) = some r := H
            have A28 := Aside0.mk A280
            clear A280
            obtain rfl := Option.some.inj H
            obtain ⟨Ao29, co29, eo29⟩ := Kd.R_slice HO_6.out
            subst eo29
            go_wp2_with (first | ((with_reducible refine gate_callee (f := 131) rfl ?_); refine goesL_ (some 70) rfl rfl Try.func131 (by kernel_rfl) rfl #[.slice Ao29 x6_1.length co29] rfl (by (try simp only [List.map_toArray, List.map_cons, List.map_nil]); first | done | rfl | (simp only [List.length_drop, List.length_take]; rfl)) ?_; (with_reducible refine (relictref01_Norm.calls k1 _ _ x6_1 t363 _ ?side1 ?side2 A28.out).mono ?_); (case side1 => repeat (first | exact (Kd.R_reads' HO_6.out).2.2 | (with_reducible refine Kd.C_alloc ?_ _) | (with_reducible refine Kd.C_drewN ?_ _) | (with_reducible refine Kd.C_drew ?_))); (case side2 => exact (Kd.R_reads' HO_6.out).2.1); rintro e w30 ⟨v364, rfl, ho0, hb⟩; refine ⟨_, rfl, ?_⟩; have n0_ := Aside0.mk (Kd.R_elder' (by (with_reducible repeat (first | apply Kd.R_alloc | apply Kd.R_drewN | apply Kd.R_drew)); exact HO_6.out) (Kd.R_base ho0) hb); have n1_ := Aside0.mk (Kd.R_lower (Kd.R_new' ho0 (Kd.R_lt (by (with_reducible repeat (first | apply Kd.R_alloc | apply Kd.R_drewN | apply Kd.R_drew)); exact HO_6.out))) (below_size (by repeat (first | (with_reducible first | exact HB.out | apply below_alloc | apply pw_below_drewN | apply below_drew1) | exact HB.out)))); have n2_ := Aside0.mk (below_step (by repeat (first | (with_reducible first | exact HB.out | apply below_alloc | apply pw_below_drewN | apply below_drew1) | exact HB.out)) hb); clear HO_6; clear HB; have HO_6 := n0_; have HO365 := n1_; have HB := n2_; clear n0_ n1_ n2_; (try clear hb); (try clear hb2); (try clear hk); (try clear hi); (try clear ho0)))
            go_ret
            exact ⟨_, by first | rfl | (simp [errW_none, errW_some] <;> rfl) | (simp only [← hji3, ← hji4, ← hji5]; first | rfl | (simp [errW_none, errW_some] <;> rfl)) | (simp [*, errW_none, errW_some] <;> rfl), by (with_reducible repeat (first | apply Kd.R_alloc | apply Kd.R_drewN | apply Kd.R_drew)); exact Kd.R_mono HO365.out (fun _ hk => trivial), by repeat (first | (with_reducible first | exact HB.out | apply below_alloc | apply pw_below_drewN | apply below_drew1) | exact HB.out)⟩
    · rw [if_neg c7] at H
      exact absurd H (by simp)
  · rw [if_neg c6] at H
    exact absurd H (by simp)

end Go.Proofs.Ytlifdpfhepamfaa.PHe
