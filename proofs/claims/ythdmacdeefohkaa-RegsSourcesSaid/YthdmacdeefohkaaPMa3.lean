-- Printed by the kit's print.py from a list of bodies that this session turned in four places; parts of it are this session's own.
import Derived.Test.YthdmacdeefohkaaPMa0
import Derived.Test.YthdmacdeefohkaaPMa1
import Derived.Test.YthdmacdeefohkaaPMa2
namespace Go.Proofs.Ythdmacdeefohkaa.PMa
open Go.RowKit Go.Proofs.YthdmacdeefohkaaW.PrintWords Go.Proofs.YthdmacdeefohkaaW.PrintLast Go.Proofs.YthdmacdeefohkaaW.PrintMore
attribute [local go_sem] max2_int min2_int max_two min_two max_three min_three max_four min_four   -- for this text's walks alone
set_option linter.unusedVariables false
set_option linter.unusedSimpArgs false

/-! ### relictlaw20_awake: function 29 -/
open Go.Proofs.YthdmacdeefohkaaMem Go.Proofs.YthdmacdeefohkaaLeaf Go.Proofs.YthdmacdeefohkaaBits in
set_option maxHeartbeats 4000000 in
set_option maxRecDepth 100000 in
theorem awake_own (w : World) : Calls Try.prog 29 #[] w fun e w' => e = .returned (.bool true) ∧ Below w.heap.size w w' := by
  have hu45 := Try.underlying45
  have HC := Aside0.mk (match_Start.calls 6 false none 0 [] (⟨#[1, 2]⟩ : ByteArray) 0 none 0 [] 8 false [] (⟨#[1, 2]⟩ : ByteArray) 0 [] true w (Kd.C_nil _ _) (by simp) (Kd.C_nil _ _) (by simp) (by rfl))
  go_enter Try.func29, Try.ntmps29
  go_wp2_with fail
  refine HC.out.mono ?_
  rintro e w1 ⟨v2, v5, rfl, h2, h5, hb1⟩
  obtain ⟨A2, c2, rfl, hc2, hC2⟩ := Kd.R_reads h2
  obtain ⟨A5, c5, rfl, hc5, hC5⟩ := Kd.R_reads h5
  have hw1 := below_alloc (Below.refl _ w1) (.cells #[.int .i64 8, .bool false, .slice A2 0 c2, .string (⟨#[1, 2]⟩ : ByteArray), .int .i64 0, .slice A5 0 c5] 45)
  have HCN := Aside0.mk (match_Number.calls 10 8 false A2 c2 [] (⟨#[1, 2]⟩ : ByteArray) 0 A5 c5 [] 2 1 false [258] (⟨#[]⟩ : ByteArray) 0 [] 8 false [] (⟨#[1, 2]⟩ : ByteArray) 2 [] true _ (Kd.C_below hC2 hw1) hc2 (Kd.C_below hC5 hw1) hc5 (by kernel_rfl))
  have HB1 := Aside0.mk (below_alloc hb1 (.cells #[.int .i64 8, .bool false, .slice A2 0 c2, .string (⟨#[1, 2]⟩ : ByteArray), .int .i64 0, .slice A5 0 c5] 45))
  have HCC := Aside0.mk (And.intro (Kd.C_below hC2 hw1) (And.intro hc2 (And.intro (Kd.C_below hC5 hw1) hc5)))
  clear HC h2 h5 hb1 hC2 hC5 hw1 hc2 hc5
  go_wp2_with fail
  refine HCN.out.mono ?_
  rintro e w2 ⟨v2', v5', v8', v11', rfl, g2, g5, g8, g11, hb2⟩
  obtain ⟨B2, d2, rfl, hd2, hD2⟩ := Kd.R_reads g2
  obtain ⟨B5, d5, rfl, hd5, hD5⟩ := Kd.R_reads g5
  obtain ⟨B8, d8, rfl, hd8, hD8⟩ := Kd.R_reads g8
  obtain ⟨B11, d11, rfl, hd11, hD11⟩ := Kd.R_reads g11
  obtain ⟨ad, rfl, hcell⟩ := Kd.at_int hD2 0 (by omega) (by simp)
  obtain ⟨W, hW⟩ : ∃ W, (w2.alloc (.cells #[.int .i64 1, .bool false, .slice (some ad) 1 d2, .string (⟨#[]⟩ : ByteArray), .int .i64 0, .slice B5 0 d5] 45)).alloc (.cells #[.int .i64 8, .bool false, .slice B8 0 d8, .string (⟨#[1, 2]⟩ : ByteArray), .int .i64 2, .slice B11 0 d11] 45) = W := ⟨_, rfl⟩
  have hbW : Below w2.heap.size w2 W := by rw [← hW]; exact below_alloc (below_alloc (Below.refl _ _) _) _
  have hc : W.cell? (ad.add 0) = some (.int .u32 258) := pw_cell_below hbW hcell
  have h1 : W.heap[w1.heap.size]? = some (.cells #[.int .i64 8, .bool false, .slice A2 0 c2, .string (⟨#[1, 2]⟩ : ByteArray), .int .i64 0, .slice A5 0 c5] 45 (0, 0)) := (hbW.block _ (by have := hb2.size; simp at this; omega)).trans ((hb2.block _ (by simp)).trans (heap_alloc_new w1 _))
  have h3 : W.heap[w2.heap.size]? = some (.cells #[.int .i64 1, .bool false, .slice (some ad) 1 d2, .string (⟨#[]⟩ : ByteArray), .int .i64 0, .slice B5 0 d5] 45 (0, 0)) := by rw [← hW]; exact blk_alloc (heap_alloc_new w2 _) _
  have h4 : W.heap[w2.heap.size + 1]? = some (.cells #[.int .i64 8, .bool false, .slice B8 0 d8, .string (⟨#[1, 2]⟩ : ByteArray), .int .i64 2, .slice B11 0 d11] 45 (0, 0)) := by
    rw [← hW]; have := heap_alloc_new (w2.alloc (.cells #[.int .i64 1, .bool false, .slice (some ad) 1 d2, .string (⟨#[]⟩ : ByteArray), .int .i64 0, .slice B5 0 d5] 45)) (.cells #[.int .i64 8, .bool false, .slice B8 0 d8, .string (⟨#[1, 2]⟩ : ByteArray), .int .i64 2, .slice B11 0 d11] 45)
    simpa using this
  have HB2 := Aside0.mk ((below_step HB1.out hb2).trans (hbW.mono (below_step HB1.out hb2).size))
  have HCL := Aside0.mk (match_Left.calls 8 false B8 d8 [] (⟨#[1, 2]⟩ : ByteArray) 2 B11 d11 [] 0 W (Kd.C_below hD8 hbW) hd8 (Kd.C_below hD11 hbW) hd11 (by kernel_rfl))
  have H1 := Aside0.mk h1
  have HCC2 := Aside0.mk (And.intro (Kd.C_below HCC.out.1 (hb2.trans (hbW.mono hb2.size))) (Kd.C_below HCC.out.2.2.1 (hb2.trans (hbW.mono hb2.size))))
  obtain ⟨c30, c31, c32, c33, c34, c35⟩ := six_cells h3
  obtain ⟨c40, c41, c42, c43, c44, c45⟩ := six_cells h4
  clear h1 h3 h4 g2 g5 g8 g11 hb2 hD2 hD5 hD8 hD11 hcell hbW HCN
  have hc2 : W.cell? ad = some (.int .u32 258) := by have := hc; rwa [show ad.add 0 = ad from by cases ad with | mk b o p => cases p <;> simp [Addr.add]] at this
  go_wp2_with fail
  refine HCL.out.mono ?_
  rintro e w3 ⟨rfl, hb3⟩
  have HB3 := Aside0.mk (below_step HB2.out hb3)
  have h1 := (hb3.block _ (blk_lt H1.out)).trans H1.out
  have HCM := Aside0.mk (match_Left.calls 8 false A2 c2 [] (⟨#[1, 2]⟩ : ByteArray) 0 A5 c5 [] 2 w3 (Kd.C_below HCC2.out.1 hb3) HCC.out.2.1 (Kd.C_below HCC2.out.2 hb3) HCC.out.2.2.2 (by kernel_rfl))
  obtain ⟨c10, c11, c12, c13, c14, c15⟩ := six_cells h1
  clear hc2 h1 hb3 c30 c31 c32 c33 c34 c35 c40 c41 c42 c43 c44 c45 hc hW
  go_wp2_with fail
  refine HCM.out.mono ?_
  rintro e w4 ⟨rfl, hb4⟩
  have HB4 := Aside0.mk (below_step HB3.out hb4)
  clear hb4
  go_wp2_with fail
  go_ret
  exact ⟨rfl, HB4.out⟩
def relictlaw20_awake.f (k : Nat)  : Option (Bool) := some true
theorem relictlaw20_awake.mono : ∀ k, LeO (relictlaw20_awake.f k ) (relictlaw20_awake.f (k + 1) ) := fun k => by unfold relictlaw20_awake.f; exact LeO.refl _
theorem relictlaw20_awake.calls (k : Nat) (r : Bool) (w : World) (h : relictlaw20_awake.f k = some r) :
    Calls Try.prog 29 #[] w fun e w' => e = .returned (.bool r) ∧ Below w.heap.size w w' := by
  obtain rfl : true = r := Option.some.inj h
  exact awake_own w

/-! ### relictref01_Norm: function 125 -/
def relictref01_Norm.f (k : Nat) (l0 : List Int) : Option (List Int) := if l0.length ≤ 1000 then some (l0.take (Go.Proofs.YthdmacdeefohkaaLeaf.keepN l0 l0.length)) else none
theorem relictref01_Norm.mono : ∀ a0 k, LeO (relictref01_Norm.f k a0) (relictref01_Norm.f (k + 1) a0) := fun a0 k => by unfold relictref01_Norm.f; exact LeO.refl _
theorem relictref01_Norm.calls (k : Nat) (A0 : Option Addr) (c0 : Nat) (l0 : List Int) (r : List Int) (w : World) (hr0 : Kd.C (Kd.int .u32) w A0 l0.length l0) (hc0 : l0.length ≤ c0) (h : relictref01_Norm.f k l0 = some r) :
    Calls Try.prog 125 #[.slice A0 l0.length c0] w fun e w' => ∃ v0_ : Value, e = .returned (v0_) ∧ Kd.R (Kd.int .u32) 123 w' w.heap.size (fun _ => True) v0_ r ∧ Below w.heap.size w w' := by
  unfold relictref01_Norm.f at h
  split at h
  · injection h with h
    subst h
    exact Go.Proofs.YthdmacdeefohkaaLeaf.rnorm_calls w A0 c0 l0 (Kd.reads_of_C (enc := Value.int .u32) (d := (0 : Int)) (h1 := fun _ => rfl) hr0) hc0 (by omega)
  · cases h

/-! ### relictref02_made: function 121 -/
/-! ### relictref02_Of: function 110 -/
open Go.Proofs.YthdmacdeefohkaaMem Go.Proofs.YthdmacdeefohkaaLeaf Go.Proofs.YthdmacdeefohkaaBits in
set_option maxHeartbeats 4000000 in
set_option maxRecDepth 100000 in
theorem rmade_own (w : World) (A : Option Addr) (c : Nat) (xs ys : List Int) (hr : ReadsInt w .u32 A xs.length xs) (hc : xs.length ≤ c) (hm : xs.length ≤ 12) (hys : xs.take (keepN xs xs.length) = ys) :
    Calls Try.prog 121 #[.bool false, .slice A xs.length c] w fun e w' => ∃ v : Value, e = .returned (.tuple #[.agg #[.bool false, v], .bool true]) ∧ Kd.R (Kd.int .u32) 123 w' w.heap.size (fun k => k ≠ w.heap.size) v ys ∧ Below w.heap.size w w' := by
  have HC := Aside0.mk (rnorm_calls (w.alloc (.cells #[.bool false, .slice none 0 0] 42)) A c xs (hr.below (below_alloc (Below.refl _ w) _)) hc (by omega))
  rw [hys] at HC
  have hyl : ys.length ≤ 12 := by rw [← hys, List.length_take]; omega
  obtain ⟨n, hn⟩ : ∃ n, xs.length = n := ⟨_, rfl⟩
  rw [hn] at HC hc hm ⊢
  clear hr hn hys
  have hy2 : ¬ (ys.length : Int) > 12 := by omega
  go_enter Try.func121, Try.ntmps121
  go_wp2_with fail
  refine HC.out.mono ?_
  rintro e w1 ⟨v, rfl, hR, hb1⟩
  obtain ⟨A', c', rfl, hcc, hC⟩ := Kd.R_reads hR
  have HR1 := Aside0.mk hR
  have h4 : w1.heap[w.heap.size]? = some (.cells #[.bool false, .slice none 0 0] 42 (0, 0)) := (hb1.block _ (by simp)).trans (heap_alloc_new _ _)
  have H4 := Aside0.mk h4
  have HB1 := Aside0.mk (below_step (below_alloc (Below.refl _ w) _) hb1)
  obtain ⟨c40, c41, f40, f41⟩ := two_cells h4
  clear hR hb1 h4 HC hC
  go_wp2_with fail
  refine bodyPost_ret (results_ct rfl _ _ w.heap.size 42 #[.bool false, .slice A' ys.length c'] (0, 0) _ rfl (two_put H4.out) Try.underlying42 rfl (by kernel_rfl)) rfl ?_
  refine ⟨_, rfl, ?_, below_set (below_set HB1.out (Nat.le_refl _)) (Nat.le_refl _)⟩
  have q := Kd.R_types HR1.out H4.out (by decide)
  exact Kd.R_mono (Kd.R_lower (Kd.R_far (p := ⟨w.heap.size, 1, none⟩) (Kd.R_far (p := ⟨w.heap.size, 0, none⟩) q (fun _ hk => hk.2) _) (fun _ hk => hk.2) _) (by simp)) (fun _ hk => hk.2)
open Go.Proofs.YthdmacdeefohkaaMem Go.Proofs.YthdmacdeefohkaaLeaf Go.Proofs.YthdmacdeefohkaaBits in
set_option maxHeartbeats 4000000 in
set_option maxRecDepth 100000 in
theorem rof_own (w : World) (v : Int) (h0 : 0 ≤ v) (h1 : v < 9223372036854775808) :
    Calls Try.prog 110 #[.int .i64 v] w fun e w' => ∃ u : Value, e = .returned (.agg #[.bool false, u]) ∧ Kd.R (Kd.int .u32) 123 w' w.heap.size (fun _ => True) u (limbs v) ∧ Below w.heap.size w w' := by
  have e1 : IntKind.u64.wrap v = v := by rw [wrap_u64]; omega
  have e2 : ¬ v < 0 := by omega
  have e3 : IntKind.u32.wrap v = v % 4294967296 := by simp [IntKind.wrap, IntKind.bits, IntKind.signed]
  have e4 : IntKind.u32.wrap (v / 4294967296) = v / 4294967296 := by simp [IntKind.wrap, IntKind.bits, IntKind.signed]; omega
  have hl := limbs_of v h0
  obtain ⟨W1, hW1⟩ : ∃ W1, w.alloc (.cells #[.bool false, .slice none 0 0] 42) = W1 := ⟨_, rfl⟩
  have hs1 : W1.heap.size = w.heap.size + 1 := by rw [← hW1]; simp
  have hg4 : W1.heap[w.heap.size]? = some (.cells #[.bool false, .slice none 0 0] 42 (0, 0)) := by rw [← hW1]; exact heap_alloc_new _ _
  have hb1 : Below w.heap.size w W1 := by rw [← hW1]; exact below_alloc (Below.refl _ _) _
  have C := rmade_own (W1.alloc (.cells (nums .u32 [v % 4294967296, v / 4294967296]).toArray 123)) (some ⟨W1.heap.size, 0, none⟩) 2 [v % 4294967296, v / 4294967296] (limbs v) (reads_blk (heap_alloc_new _ _) 2 (by simp) (by omega)) (by simp) (by simp) hl.1
  rw [show [v % 4294967296, v / 4294967296].length = 2 from rfl, hs1] at C
  rw [← hW1] at C hb1 hg4
  have HC := Aside0.mk C
  have HB1 := Aside0.mk hb1
  have HG4 := Aside0.mk hg4
  obtain ⟨L, hL⟩ : ∃ L, limbs v = L := ⟨_, rfl⟩
  rw [hL] at HC ⊢
  clear hl C hb1 hg4 hW1 hs1 hL
  go_enter Try.func110, Try.ntmps110
  go_wp2_with fail
  refine HC.out.mono ?_
  rintro e w1 ⟨u, rfl, hR, hb1⟩
  obtain ⟨A', c', rfl⟩ := Kd.R_slice hR
  have HR1 := Aside0.mk hR
  have h4 := (hb1.block w.heap.size (by simp; omega)).trans (blk_alloc HG4.out _)
  have HB := Aside0.mk (below_step (below_alloc HB1.out _) hb1)
  have hh4 := blk_alloc h4 (.cells #[.bool false, .slice A' L.length c'] 42)
  obtain ⟨c20, c21, f20, f21⟩ := two_cells hh4
  have H4 := Aside0.mk h4
  clear hR hb1 HC HG4 h4 hh4
  go_wp2_with fail
  have hh := blk_alloc H4.out (.cells #[.bool false, .slice A' L.length c'] 42)
  refine bodyPost_ret (results_cell_row rfl _ _ w.heap.size 42 #[.bool false, .slice A' L.length c'] (0, 0) _ rfl (two_put hh) Try.underlying42 rfl (by kernel_rfl)) rfl ?_
  refine ⟨_, rfl, ?_, below_set (below_set (below_alloc HB.out _) (Nat.le_refl _)) (Nat.le_refl _)⟩
  have q := Kd.R_types (Kd.R_alloc HR1.out (.cells #[.bool false, .slice A' L.length c'] 42)) hh (by decide)
  exact Kd.R_mono (Kd.R_lower (Kd.R_far (p := ⟨w.heap.size, 1, none⟩) (Kd.R_far (p := ⟨w.heap.size, 0, none⟩) q (fun _ hk => hk.2) _) (fun _ hk => hk.2) _) (by simp; omega)) (fun _ _ => trivial)
def relictref02_Of.f (k : Nat) (a0 : Int) : Option (Bool × List Int) := if 0 ≤ a0 then (if a0 < 9223372036854775808 then some (false, Go.Proofs.YthdmacdeefohkaaLeaf.limbs a0) else none) else none
theorem relictref02_Of.mono : ∀ a0 k, LeO (relictref02_Of.f k a0) (relictref02_Of.f (k + 1) a0) := fun a0 k => by unfold relictref02_Of.f; exact LeO.refl _
theorem relictref02_Of.calls (k : Nat) (a0 : Int) (r1 : Bool) (r2 : List Int) (w : World) (h : relictref02_Of.f k a0 = some (r1, r2)) :
    Calls Try.prog 110 #[.int .i64 a0] w fun e w' => ∃ v1_ : Value, e = .returned (.agg #[.bool r1, v1_]) ∧ Kd.R (Kd.int .u32) 123 w' w.heap.size (fun _ => True) v1_ r2 ∧ Below w.heap.size w w' := by
  unfold relictref02_Of.f at h
  split at h
  · split at h
    · simp only [Option.some.injEq, Prod.mk.injEq] at h
      obtain ⟨rfl, rfl⟩ := h
      exact rof_own w a0 (by assumption) (by assumption)
    · cases h
  · cases h

end Go.Proofs.Ythdmacdeefohkaa.PMa
