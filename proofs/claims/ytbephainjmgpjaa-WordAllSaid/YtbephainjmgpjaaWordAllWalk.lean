/- WordAll: for any numbers and any word, the package word makes and reads the same words as the document's answer; no condition. -/
import Derived.Test.YtbephainjmgpjaaWmWordAll
namespace Go.Proofs.Ytbephainjmgpjaa.PWordAll
open Go.RowKit Go.Proofs.YtbephainjmgpjaaBits Go.Proofs.YtbephainjmgpjaaW.PrintWords Go.Proofs.YtbephainjmgpjaaW.PrintLast Go.Proofs.YtbephainjmgpjaaW.PrintMore
attribute [local go_sem] max2_int min2_int max_two min_two max_three min_three max_four min_four
set_option linter.unusedVariables false
set_option linter.unusedSimpArgs false
theorem wf_u64 {x : Int} (h : (Lit.int .u64 x).wf = true) : 0 ≤ x ∧ x < 18446744073709551616 := by
  simp only [Lit.wf, IntKind.min, IntKind.max, IntKind.signed, IntKind.bits, Bool.and_eq_true, decide_eq_true_eq] at h
  simp at h
  omega
theorem ref_now_eq (w k : Int) (h0 : 0 ≤ k) (h1 : k < 4) : relictref10_Now.f w k = some (w % 16 == k * 4 + 3) := by
  unfold relictref10_Now.f
  rw [u64_and15, wrap_u64, or_join 2 _ _ (by omega) (by omega) (by omega) (by omega) (by omega) (by omega)]
  congr 2
  omega
theorem ref_cut_eq (n : Int) : relictref10_cut.f n = some (cutI n) := by unfold relictref10_cut.f cutI mx mn; congr 1; (repeat' split) <;> omega
theorem ref_small_eq (a : Int) : relictref10_Small.f a = some ((smallI a * 16) % 18446744073709551616 + 3) := by
  have hb := smallI_bd a
  have e : mn (mx a (-576460752303423488)) 576460752303423487 = smallI a := by unfold smallI mx mn; (repeat' split) <;> omega
  unfold relictref10_Small.f
  rw [e, wrap_u64, wrap_u64, or_join 4 _ _ (by omega) (by omega) (by omega) (by omega) (by omega) (by omega)]
  congr 1
  omega
theorem ref_atom_eq (a : Int) : relictref10_AtomOf.f a = some (cutI a * 16 + 7) := by
  have hb := cutI_bd a
  unfold relictref10_AtomOf.f
  rw [ref_cut_eq]; simp only [Option.bind_some]
  rw [wrap_u64, or_join 4 _ _ (by omega) (by omega) (by omega) (by omega) (by omega) (by omega)]
  congr 1
  omega
theorem ref_catch_eq (a : Int) : relictref10_Catch.f a = some (cutI a * 16 + 15) := by
  have hb := cutI_bd a
  unfold relictref10_Catch.f
  rw [ref_cut_eq]; simp only [Option.bind_some]
  rw [wrap_u64, or_join 4 _ _ (by omega) (by omega) (by omega) (by omega) (by omega) (by omega)]
  congr 1
  omega
theorem ref_pointer_eq (t a : Int) : relictref10_Pointer.f t a = some (cutI a * 4 + t % 4) := by
  have hb := cutI_bd a
  unfold relictref10_Pointer.f
  rw [ref_cut_eq]; simp only [Option.bind_some]
  rw [i64_and3, wrap_u64, wrap_u64, or_join 2 _ _ (by omega) (by omega) (by omega) (by omega) (by omega) (by omega)]
  congr 1
  omega
theorem ref_head_eq (k a : Int) : relictref10_Head.f k a = some (cutI a * 64 + k % 16 * 4) := by
  have hb := cutI_bd a
  unfold relictref10_Head.f
  rw [ref_cut_eq]; simp only [Option.bind_some]
  rw [i64_and15, wrap_u64, wrap_u64, wrap_u64, or_join 6 _ _ (by omega) (by omega) (by omega) (by omega) (by omega) (by omega)]
  congr 1
  omega
theorem ref_tag_eq (w : Int) : relictref10_Tag.f w = some (w % 4) := by
  unfold relictref10_Tag.f; rw [u64_and3]; congr 1; unfold wrap64; omega
theorem ref_intOf_eq (w : Int) : relictref10_IntOf.f w = some (intOfI w) := by
  unfold relictref10_IntOf.f intOfI
  rw [ref_now_eq w 0 (by omega) (by omega)]; simp only [Option.bind_some]
  by_cases h : w % 16 = 3
  · rw [if_pos (by rw [beq_iff_eq]; omega), if_pos h]
  · rw [if_neg (by rw [beq_iff_eq]; omega), if_neg h]
theorem ref_isAtom_eq (w : Int) (h0 : 0 ≤ w) (h1 : w < 18446744073709551616) : relictref10_IsAtom.f w = some (isAtomI w) := by
  unfold relictref10_IsAtom.f isAtomI
  rw [ref_now_eq w 1 (by omega) (by omega)]; simp only [Option.bind_some]
  have e1 : wrap64 (w / 16) = w / 16 := by unfold wrap64; omega
  by_cases h : w % 16 = 7
  · rw [if_pos (by rw [beq_iff_eq]; omega), if_pos h, e1]
  · rw [if_neg (by rw [beq_iff_eq]; omega), if_neg h]
theorem ref_isCatch_eq (w : Int) (h0 : 0 ≤ w) (h1 : w < 18446744073709551616) : relictref10_IsCatch.f w = some (isCatchI w) := by
  unfold relictref10_IsCatch.f isCatchI
  rw [ref_now_eq w 3 (by omega) (by omega)]; simp only [Option.bind_some]
  have e1 : wrap64 (w / 16) = w / 16 := by unfold wrap64; omega
  by_cases h : w % 16 = 15
  · rw [if_pos (by rw [beq_iff_eq]; omega), if_pos h, e1]
  · rw [if_neg (by rw [beq_iff_eq]; omega), if_neg h]
theorem ref_at_eq (w : Int) (h0 : 0 ≤ w) (h1 : w < 18446744073709551616) : relictref10_At.f w = some (atI w) := by
  unfold relictref10_At.f atI
  rw [ref_tag_eq]; simp only [Option.bind_some]
  by_cases a : w % 4 = 1
  · rw [if_pos a, if_pos (.inl a)]; congr 1; unfold wrap64; omega
  · rw [if_neg a]
    by_cases b : w % 4 = 2
    · rw [if_pos b, if_pos (.inr b)]; congr 1; unfold wrap64; omega
    · rw [if_neg b, if_neg (by omega)]
theorem ref_headOf_eq (w : Int) (h0 : 0 ≤ w) (h1 : w < 18446744073709551616) : relictref10_HeadOf.f w = some (headOfI w) := by
  unfold relictref10_HeadOf.f headOfI
  rw [ref_tag_eq]; simp only [Option.bind_some]
  by_cases a : w % 4 = 0
  · rw [if_pos a, if_pos a, u64_and15]
    have e1 : wrap64 (w / 4 % 16) = w / 4 % 16 := by unfold wrap64; omega
    have e2 : wrap64 (w / 64) = w / 64 := by unfold wrap64; omega
    rw [e1, e2]
  · rw [if_neg a, if_neg a]

set_option maxHeartbeats 4000000 in
set_option maxRecDepth 100000 in
theorem law_calls (a0 a1 a2 a3 : Int) (l0 : 0 ≤ a3) (l1 : a3 < 18446744073709551616) (w : World) :
    Calls Try.prog 6 #[.int .i64 a0, .int .i64 a1, .int .i64 a2, .int .u64 a3] w fun e w' => e = .returned (.bool true) ∧ Below w.heap.size w w' := by
  have HB := Aside0.mk (Below.refl w.heap.size w)
  have A_word_IntOf := Aside0.mk (intOf_eq a3)
  have A_relictref10_IntOf := Aside0.mk (ref_intOf_eq a3)
  obtain ⟨i1, i2, q_⟩ : ∃ i1 i2, intOfI a3 = (i1, i2) := ⟨_, _, rfl⟩
  rw [q_] at A_word_IntOf A_relictref10_IntOf; clear q_
  have A_word_IsAtom := Aside0.mk (isAtom_eq a3 l0 l1)
  have A_relictref10_IsAtom := Aside0.mk (ref_isAtom_eq a3 l0 l1)
  obtain ⟨j1, j2, q_⟩ : ∃ j1 j2, isAtomI a3 = (j1, j2) := ⟨_, _, rfl⟩
  rw [q_] at A_word_IsAtom A_relictref10_IsAtom; clear q_
  have A_word_IsCatch := Aside0.mk (isCatch_eq a3 l0 l1)
  have A_relictref10_IsCatch := Aside0.mk (ref_isCatch_eq a3 l0 l1)
  obtain ⟨k1, k2, q_⟩ : ∃ k1 k2, isCatchI a3 = (k1, k2) := ⟨_, _, rfl⟩
  rw [q_] at A_word_IsCatch A_relictref10_IsCatch; clear q_
  have A_word_HeadOf := Aside0.mk (headOf_eq a3 l0 l1)
  have A_relictref10_HeadOf := Aside0.mk (ref_headOf_eq a3 l0 l1)
  obtain ⟨h1, h2, h3, q_⟩ : ∃ h1 h2 h3, headOfI a3 = (h1, h2, h3) := ⟨_, _, _, rfl⟩
  rw [q_] at A_word_HeadOf A_relictref10_HeadOf; clear q_
  have A_word_Small := Aside0.mk (small_eq a0)
  have A_relictref10_Small := Aside0.mk (ref_small_eq a0)
  generalize (smallI a0 * 16) % 18446744073709551616 + 3 = s at A_word_Small A_relictref10_Small
  have A_word_AtomOf := Aside0.mk (atom_eq a0)
  have A_relictref10_AtomOf := Aside0.mk (ref_atom_eq a0)
  generalize cutI a0 * 16 + 7 = t at A_word_AtomOf A_relictref10_AtomOf
  have A_word_Catch := Aside0.mk (catch_eq a0)
  have A_relictref10_Catch := Aside0.mk (ref_catch_eq a0)
  generalize cutI a0 * 16 + 15 = c at A_word_Catch A_relictref10_Catch
  have A_word_Pointer := Aside0.mk (pointer_eq a2 a0)
  have A_relictref10_Pointer := Aside0.mk (ref_pointer_eq a2 a0)
  generalize cutI a0 * 4 + a2 % 4 = p at A_word_Pointer A_relictref10_Pointer
  have A_word_Head := Aside0.mk (head_eq a1 a0)
  have A_relictref10_Head := Aside0.mk (ref_head_eq a1 a0)
  generalize cutI a0 * 64 + a1 % 16 * 4 = d at A_word_Head A_relictref10_Head
  have A_word_Tag := Aside0.mk (tag_eq a3)
  have A_relictref10_Tag := Aside0.mk (ref_tag_eq a3)
  generalize a3 % 4 = g at A_word_Tag A_relictref10_Tag
  have A_word_At := Aside0.mk (at_eq a3 l0 l1)
  have A_relictref10_At := Aside0.mk (ref_at_eq a3 l0 l1)
  generalize atI a3 = m at A_word_At A_relictref10_At
  clear l0 l1
  go_enter Try.func6, Try.ntmps6
  go_wp2_with (first | ((with_reducible refine gate_callee (f := 17) rfl ?_); refine goesL_ (some 29) rfl rfl Try.func17 (by kernel_rfl) rfl #[.int .u64 a3] rfl (by (try simp only [List.map_toArray, List.map_cons, List.map_nil]); first | done | rfl) ?_; (with_reducible refine (word_IntOf.calls a3 i1 i2 _ A_word_IntOf.out).mono ?_); rintro e w' ⟨rfl, ⟨nd, rfl⟩⟩; refine ⟨_, rfl, ?_⟩) | ((with_reducible refine gate_callee (f := 28) rfl ?_); refine goesL_ (some 34) rfl rfl Try.func28 (by kernel_rfl) rfl #[.int .u64 a3] rfl (by (try simp only [List.map_toArray, List.map_cons, List.map_nil]); first | done | rfl) ?_; (with_reducible refine (relictref10_IntOf.calls a3 i1 i2 _ A_relictref10_IntOf.out).mono ?_); rintro e w' ⟨rfl, ⟨nd, rfl⟩⟩; refine ⟨_, rfl, ?_⟩) | ((with_reducible refine gate_callee (f := 29) rfl ?_); refine goesL_ (some 39) rfl rfl Try.func29 (by kernel_rfl) rfl #[.int .u64 a3] rfl (by (try simp only [List.map_toArray, List.map_cons, List.map_nil]); first | done | rfl) ?_; (with_reducible refine (word_IsAtom.calls a3 j1 j2 _ A_word_IsAtom.out).mono ?_); rintro e w' ⟨rfl, ⟨nd, rfl⟩⟩; refine ⟨_, rfl, ?_⟩) | ((with_reducible refine gate_callee (f := 30) rfl ?_); refine goesL_ (some 44) rfl rfl Try.func30 (by kernel_rfl) rfl #[.int .u64 a3] rfl (by (try simp only [List.map_toArray, List.map_cons, List.map_nil]); first | done | rfl) ?_; (with_reducible refine (relictref10_IsAtom.calls a3 j1 j2 _ A_relictref10_IsAtom.out).mono ?_); rintro e w' ⟨rfl, ⟨nd, rfl⟩⟩; refine ⟨_, rfl, ?_⟩) | ((with_reducible refine gate_callee (f := 31) rfl ?_); refine goesL_ (some 49) rfl rfl Try.func31 (by kernel_rfl) rfl #[.int .u64 a3] rfl (by (try simp only [List.map_toArray, List.map_cons, List.map_nil]); first | done | rfl) ?_; (with_reducible refine (word_IsCatch.calls a3 k1 k2 _ A_word_IsCatch.out).mono ?_); rintro e w' ⟨rfl, ⟨nd, rfl⟩⟩; refine ⟨_, rfl, ?_⟩) | ((with_reducible refine gate_callee (f := 32) rfl ?_); refine goesL_ (some 54) rfl rfl Try.func32 (by kernel_rfl) rfl #[.int .u64 a3] rfl (by (try simp only [List.map_toArray, List.map_cons, List.map_nil]); first | done | rfl) ?_; (with_reducible refine (relictref10_IsCatch.calls a3 k1 k2 _ A_relictref10_IsCatch.out).mono ?_); rintro e w' ⟨rfl, ⟨nd, rfl⟩⟩; refine ⟨_, rfl, ?_⟩) | ((with_reducible refine gate_callee (f := 18) rfl ?_); refine goesL_ (some 59) rfl rfl Try.func18 (by kernel_rfl) rfl #[.int .u64 a3] rfl (by (try simp only [List.map_toArray, List.map_cons, List.map_nil]); first | done | rfl) ?_; (with_reducible refine (word_HeadOf.calls a3 h1 h2 h3 _ A_word_HeadOf.out).mono ?_); rintro e w' ⟨rfl, ⟨nd, rfl⟩⟩; refine ⟨_, rfl, ?_⟩) | ((with_reducible refine gate_callee (f := 33) rfl ?_); refine goesL_ (some 65) rfl rfl Try.func33 (by kernel_rfl) rfl #[.int .u64 a3] rfl (by (try simp only [List.map_toArray, List.map_cons, List.map_nil]); first | done | rfl) ?_; (with_reducible refine (relictref10_HeadOf.calls a3 h1 h2 h3 _ A_relictref10_HeadOf.out).mono ?_); rintro e w' ⟨rfl, ⟨nd, rfl⟩⟩; refine ⟨_, rfl, ?_⟩) | (go_at_call 11; (with_reducible refine (word_Small.calls a0 s _ A_word_Small.out).mono ?_); rintro e wz ⟨rfl, hb⟩; have n0_ := Aside0.mk (below_step (by repeat (first | (with_reducible first | exact HB.out | apply below_alloc | apply pw_below_drewN | apply below_drew1) | exact HB.out)) hb); clear HB; have HB := n0_; clear n0_; (try clear hb)) | (go_at_call 34; (with_reducible refine (relictref10_Small.calls a0 s _ A_relictref10_Small.out).mono ?_); rintro e wz ⟨rfl, hb⟩; have n0_ := Aside0.mk (below_step (by repeat (first | (with_reducible first | exact HB.out | apply below_alloc | apply pw_below_drewN | apply below_drew1) | exact HB.out)) hb); clear HB; have HB := n0_; clear n0_; (try clear hb)) | (go_at_call 12; (with_reducible refine (word_AtomOf.calls a0 t _ A_word_AtomOf.out).mono ?_); rintro e wz ⟨rfl, hb⟩; have n0_ := Aside0.mk (below_step (by repeat (first | (with_reducible first | exact HB.out | apply below_alloc | apply pw_below_drewN | apply below_drew1) | exact HB.out)) hb); clear HB; have HB := n0_; clear n0_; (try clear hb)) | (go_at_call 35; (with_reducible refine (relictref10_AtomOf.calls a0 t _ A_relictref10_AtomOf.out).mono ?_); rintro e wz ⟨rfl, hb⟩; have n0_ := Aside0.mk (below_step (by repeat (first | (with_reducible first | exact HB.out | apply below_alloc | apply pw_below_drewN | apply below_drew1) | exact HB.out)) hb); clear HB; have HB := n0_; clear n0_; (try clear hb)) | (go_at_call 13; (with_reducible refine (word_Catch.calls a0 c _ A_word_Catch.out).mono ?_); rintro e wz ⟨rfl, hb⟩; have n0_ := Aside0.mk (below_step (by repeat (first | (with_reducible first | exact HB.out | apply below_alloc | apply pw_below_drewN | apply below_drew1) | exact HB.out)) hb); clear HB; have HB := n0_; clear n0_; (try clear hb)) | (go_at_call 36; (with_reducible refine (relictref10_Catch.calls a0 c _ A_relictref10_Catch.out).mono ?_); rintro e wz ⟨rfl, hb⟩; have n0_ := Aside0.mk (below_step (by repeat (first | (with_reducible first | exact HB.out | apply below_alloc | apply pw_below_drewN | apply below_drew1) | exact HB.out)) hb); clear HB; have HB := n0_; clear n0_; (try clear hb)) | (go_at_call 14; (with_reducible refine (word_Pointer.calls a2 a0 p _ A_word_Pointer.out).mono ?_); rintro e wz ⟨rfl, hb⟩; have n0_ := Aside0.mk (below_step (by repeat (first | (with_reducible first | exact HB.out | apply below_alloc | apply pw_below_drewN | apply below_drew1) | exact HB.out)) hb); clear HB; have HB := n0_; clear n0_; (try clear hb)) | (go_at_call 37; (with_reducible refine (relictref10_Pointer.calls a2 a0 p _ A_relictref10_Pointer.out).mono ?_); rintro e wz ⟨rfl, hb⟩; have n0_ := Aside0.mk (below_step (by repeat (first | (with_reducible first | exact HB.out | apply below_alloc | apply pw_below_drewN | apply below_drew1) | exact HB.out)) hb); clear HB; have HB := n0_; clear n0_; (try clear hb)) | (go_at_call 15; (with_reducible refine (word_Head.calls a1 a0 d _ A_word_Head.out).mono ?_); rintro e wz ⟨rfl, hb⟩; have n0_ := Aside0.mk (below_step (by repeat (first | (with_reducible first | exact HB.out | apply below_alloc | apply pw_below_drewN | apply below_drew1) | exact HB.out)) hb); clear HB; have HB := n0_; clear n0_; (try clear hb)) | (go_at_call 38; (with_reducible refine (relictref10_Head.calls a1 a0 d _ A_relictref10_Head.out).mono ?_); rintro e wz ⟨rfl, hb⟩; have n0_ := Aside0.mk (below_step (by repeat (first | (with_reducible first | exact HB.out | apply below_alloc | apply pw_below_drewN | apply below_drew1) | exact HB.out)) hb); clear HB; have HB := n0_; clear n0_; (try clear hb)) | (go_at_call 19; (with_reducible refine (word_Tag.calls a3 g _ A_word_Tag.out).mono ?_); rintro e w' ⟨rfl, ⟨nd, rfl⟩⟩) | (go_at_call 39; (with_reducible refine (relictref10_Tag.calls a3 g _ A_relictref10_Tag.out).mono ?_); rintro e w' ⟨rfl, ⟨nd, rfl⟩⟩) | (go_at_call 20; (with_reducible refine (word_At.calls a3 m _ A_word_At.out).mono ?_); rintro e w' ⟨rfl, ⟨nd, rfl⟩⟩) | (go_at_call 40; (with_reducible refine (relictref10_At.calls a3 m _ A_relictref10_At.out).mono ?_); rintro e w' ⟨rfl, ⟨nd, rfl⟩⟩) | (go_at_call 16; (with_reducible refine (relictlaw10_awake.calls true _ awake_eq).mono ?_); rintro e wz ⟨rfl, hb⟩; have n0_ := Aside0.mk (below_step (by repeat (first | (with_reducible first | exact HB.out | apply below_alloc | apply pw_below_drewN | apply below_drew1) | exact HB.out)) hb); clear HB; have HB := n0_; clear n0_; (try clear hb)))
  go_ret
  exact ⟨by first | rfl | (simp; done), by repeat (first | (with_reducible first | exact HB.out | apply below_alloc | apply pw_below_drewN | apply below_drew1) | exact HB.out)⟩

end Go.Proofs.Ytbephainjmgpjaa.PWordAll
