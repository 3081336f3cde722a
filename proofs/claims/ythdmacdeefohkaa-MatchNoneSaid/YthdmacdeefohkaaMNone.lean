/- MatchNone: the walk. -/
import Derived.Test.YthdmacdeefohkaaMTerm
namespace Go.Proofs.YthdmacdeefohkaaMNone
open Go.RowKit Go.Proofs.YthdmacdeefohkaaW.PrintWords Go.Proofs.YthdmacdeefohkaaW.PrintLast Go.Proofs.YthdmacdeefohkaaW.PrintMore Go.Proofs.YthdmacdeefohkaaMem Go.Proofs.YthdmacdeefohkaaLeaf Go.Proofs.YthdmacdeefohkaaBits Go.Proofs.Ythdmacdeefohkaa.PMa Go.Proofs.YthdmacdeefohkaaMTerm Go.Proofs
set_option linter.unusedVariables false
set_option linter.unusedSimpArgs false
set_option maxHeartbeats 8000000 in
set_option maxRecDepth 100000 in
theorem law_calls (x : S45) (A2 : Option Addr) (c2 : Nat) (A5 : Option Addr) (c5 : Nat) (n : Int) (w : World) (hx : Lies w x A2 c2 A5 c5) :
    Calls Try.prog 9 #[.agg (cellsT x A2 c2 A5 c5), .int .i64 n] w fun e w' => e = .returned (.bool true) ∧ Below w.heap.size w w' := by
  have hu45 := Try.underlying45
  have hfS := field_S
  have hf0 := field_0
  obtain ⟨W1, hW1⟩ : ∃ W1, w.alloc (.cells (cellsT x A2 c2 A5 c5) 45) = W1 := ⟨_, rfl⟩
  have B1 : Box w W1 w.heap.size x A2 c2 A5 c5 := by
    rw [← hW1]; exact ⟨heap_alloc_new _ _, hx.below (below_alloc (Below.refl _ _) _), below_alloc (Below.refl _ _) _⟩
  obtain ⟨g, hg⟩ : ∃ g, w.heap.size = g := ⟨_, rfl⟩
  obtain ⟨kL, rL, hL⟩ := Light_total 60 (by omega) x
  have HB := Aside0.mk B1
  have HCL := Aside0.mk (relictlaw00_Light.calls kL x.f0 x.f1.f0 A2 c2 x.f1.f1 x.f2 x.f3 A5 c5 x.f4 60 rL W1 B1.2.1.1 B1.2.1.2.1 B1.2.1.2.2.1 B1.2.1.2.2.2 hL)
  rw [hg] at HB B1
  obtain ⟨b0, b1, b2, b3, b4, b5⟩ := B1.cells
  clear B1 hx hL
  unfold cellsT at hW1 ⊢
  go_enter Try.func9, Try.ntmps9
  go_wp2_with fail
  refine HCL.out.mono ?_
  rintro e w2 ⟨rfl, hb⟩
  have B2 := HB.out.below hb
  obtain ⟨b0, b1, b2, b3, b4, b5⟩ := B2.cells
  have HB2 := Aside0.mk B2
  have HA := Aside0.mk (awake_own w2)
  clear B2 hb HB HCL hW1
  by_cases hgo : rL = true ∧ x.f0 ≠ 8
  · obtain ⟨rfl, h8⟩ := hgo
    have e8 : (x.f0 == 8) = false := beq_eq_false_iff_ne.mpr h8
    obtain ⟨r1, r4, hS⟩ := start_any x
    have HCS := Aside0.mk (match_Start.calls x.f0 x.f1.f0 A2 c2 x.f1.f1 x.f2 x.f3 A5 c5 x.f4 r1 false [] r4 0 [] _ w2 HB2.out.2.1.1 HB2.out.2.1.2.1 HB2.out.2.1.2.2.1 HB2.out.2.1.2.2.2 hS)
    clear hS HA
    go_wp2_with fail
    refine HCS.out.mono ?_
    rintro e w3 ⟨v2, v5, rfl, q2, q5, hb⟩
    obtain ⟨D2, d2, rfl⟩ := Kd.R_slice q2
    obtain ⟨D5, d5, rfl⟩ := Kd.R_slice q5
    obtain ⟨W3, hW3⟩ : ∃ W3, w3.alloc (.cells #[.int .i64 r1, .bool false, .slice D2 0 d2, .string r4, .int .i64 0, .slice D5 0 d5] 45) = W3 := ⟨_, rfl⟩
    have B3 : Box w W3 g x A2 c2 A5 c5 := by rw [← hW3]; exact (HB2.out.below hb).below (below_alloc (Below.refl _ _) _)
    have HCN := Aside0.mk (match_Number.calls 1 x.f0 x.f1.f0 A2 c2 x.f1.f1 x.f2 x.f3 A5 c5 x.f4 n _ _ _ _ _ _ _ _ _ _ _ _ _ W3 B3.2.1.1 B3.2.1.2.1 B3.2.1.2.2.1 B3.2.1.2.2.2 (number_none x n h8))
    clear b0 b1 b2 b3 b4 b5
    obtain ⟨b0, b1, b2, b3, b4, b5⟩ := B3.cells
    have HB3 := Aside0.mk B3
    clear B3 hb q2 q5 HCS HB2
    go_wp2_with fail
    refine HCN.out.mono ?_
    rintro e w4 ⟨v2, v5, v8, v11, rfl, q2, q5, q8, q11, hb⟩
    obtain ⟨E2, e2, rfl⟩ := Kd.R_slice q2
    obtain ⟨E5, e5, rfl⟩ := Kd.R_slice q5
    obtain ⟨E8, e8', rfl⟩ := Kd.R_slice q8
    obtain ⟨E11, e11, rfl⟩ := Kd.R_slice q11
    obtain ⟨W4, hW4⟩ : ∃ W4, (w4.alloc (.cells #[.int .i64 0, .bool false, .slice E2 0 e2, .string (⟨#[]⟩ : ByteArray), .int .i64 0, .slice E5 0 e5] 45)).alloc (.cells #[.int .i64 0, .bool false, .slice E8 0 e8', .string (⟨#[]⟩ : ByteArray), .int .i64 0, .slice E11 0 e11] 45) = W4 := ⟨_, rfl⟩
    have B4 : Box w W4 g x A2 c2 A5 c5 := by rw [← hW4]; exact (HB3.out.below hb).below (below_alloc (below_alloc (Below.refl _ _) _) _)
    have HCB := Aside0.mk (match_Bytes.calls 1 x.f0 x.f1.f0 A2 c2 x.f1.f1 x.f2 x.f3 A5 c5 x.f4 n _ _ _ _ _ _ _ _ _ _ _ _ _ W4 B4.2.1.1 B4.2.1.2.1 B4.2.1.2.2.1 B4.2.1.2.2.2 (bytes_none x n h8))
    clear b0 b1 b2 b3 b4 b5
    obtain ⟨b0, b1, b2, b3, b4, b5⟩ := B4.cells
    have HB4 := Aside0.mk B4
    clear B4 hb q2 q5 q8 q11 HCN HB3 hW3
    go_wp2_with fail
    refine HCB.out.mono ?_
    rintro e w5 ⟨v2, v5, v8, v11, rfl, q2, q5, q8, q11, hb⟩
    obtain ⟨F2, f2, rfl⟩ := Kd.R_slice q2
    obtain ⟨F5, f5, rfl⟩ := Kd.R_slice q5
    obtain ⟨F8, f8, rfl⟩ := Kd.R_slice q8
    obtain ⟨F11, f11, rfl⟩ := Kd.R_slice q11
    obtain ⟨W5, hW5⟩ : ∃ W5, (w5.alloc (.cells #[.int .i64 0, .bool false, .slice F2 0 f2, .string (⟨#[]⟩ : ByteArray), .int .i64 0, .slice F5 0 f5] 45)).alloc (.cells #[.int .i64 0, .bool false, .slice F8 0 f8, .string (⟨#[]⟩ : ByteArray), .int .i64 0, .slice F11 0 f11] 45) = W5 := ⟨_, rfl⟩
    have B5 : Box w W5 g x A2 c2 A5 c5 := by rw [← hW5]; exact (HB4.out.below hb).below (below_alloc (below_alloc (Below.refl _ _) _) _)
    have HCL := Aside0.mk (match_Left.calls x.f0 x.f1.f0 A2 c2 x.f1.f1 x.f2 x.f3 A5 c5 x.f4 (-1) W5 B5.2.1.1 B5.2.1.2.1 B5.2.1.2.2.1 B5.2.1.2.2.2 (left_none x h8))
    clear b0 b1 b2 b3 b4 b5
    obtain ⟨b0, b1, b2, b3, b4, b5⟩ := B5.cells
    have HB5 := Aside0.mk B5
    clear B5 hb q2 q5 q8 q11 HCB HB4 hW4
    have e6 : (decide (x.f0 = 6) == (x.f0 == 6)) = true := by by_cases h : x.f0 = 6 <;> simp [h]
    go_wp2_with fail
    refine HCL.out.mono ?_
    rintro e w6 ⟨rfl, hb⟩
    have B6 := HB5.out.below hb
    have HCR := Aside0.mk (match_Rest.calls x.f0 x.f1.f0 A2 c2 x.f1.f1 x.f2 x.f3 A5 c5 x.f4 _ _ _ _ _ _ w6 B6.2.1.1 B6.2.1.2.1 B6.2.1.2.2.1 B6.2.1.2.2.2 (rest_none x h8))
    clear b0 b1 b2 b3 b4 b5
    obtain ⟨b0, b1, b2, b3, b4, b5⟩ := B6.cells
    have HB6 := Aside0.mk B6
    clear B6 hb HCL HB5 hW5
    go_wp2_with fail
    refine HCR.out.mono ?_
    rintro e w7 ⟨v2, v5, rfl, q2, q5, hb⟩
    obtain ⟨G2, g2, rfl⟩ := Kd.R_slice q2
    obtain ⟨G5, g5, rfl⟩ := Kd.R_slice q5
    have B7 := HB6.out.below hb
    have HB7 := Aside0.mk B7
    have HA := Aside0.mk (awake_own w7)
    clear b0 b1 b2 b3 b4 b5 B7 hb q2 q5 HCR HB6
    go_wp2_with fail
    refine HA.out.mono ?_
    rintro e w8 ⟨rfl, hb⟩
    have HB8 := Aside0.mk (below_step HB7.out.2.2 hb)
    clear hb
    go_wp2_with fail
    go_ret
    exact ⟨rfl, HB8.out⟩
  · have hno : rL = false ∨ (rL = true ∧ x.f0 = 8) := by
      cases rL with
      | false => exact .inl rfl
      | true => exact .inr ⟨rfl, Classical.byContradiction fun h => hgo ⟨rfl, h⟩⟩
    clear hgo
    rcases hno with rfl | ⟨rfl, h8⟩
    · go_wp2_with fail
      refine HA.out.mono ?_
      rintro e w3 ⟨rfl, hb⟩
      have HB3 := Aside0.mk (below_step HB2.out.2.2 hb)
      clear hb
      go_wp2_with fail
      go_ret
      exact ⟨rfl, HB3.out⟩
    · have e8 : (x.f0 == 8) = true := beq_iff_eq.mpr h8
      rw [h8] at b0
      go_wp2_with fail
      refine HA.out.mono ?_
      rintro e w3 ⟨rfl, hb⟩
      have HB3 := Aside0.mk (below_step HB2.out.2.2 hb)
      clear hb
      go_wp2_with fail
      go_ret
      exact ⟨rfl, HB3.out⟩
end Go.Proofs.YthdmacdeefohkaaMNone
