/- What the document's own words of chapter 10 are, in plain arithmetic. -/
import Derived.Test.YtbephainjmgpjaaWmWordAll
namespace Go.Proofs.YtbephainjmgpjaaWRef
open Go.RowKit Go.Proofs Go.Proofs.Ytbephainjmgpjaa.PWordAll Go.Proofs.YtbephainjmgpjaaBits Go.Proofs.YtbephainjmgpjaaW.PrintWords Go.Proofs.YtbephainjmgpjaaW.PrintLast Go.Proofs.YtbephainjmgpjaaW.PrintMore
theorem wf_u64 {x : Int} (h : (Lit.int .u64 x).wf = true) : 0 ≤ x ∧ x < 18446744073709551616 := by
  simp only [Lit.wf, IntKind.min, IntKind.max, IntKind.signed, IntKind.bits, Bool.and_eq_true] at h
  simp at h
  omega
theorem ref_now_eq (w k : Int) (h0 : 0 ≤ k) (h1 : k < 4) : relictref10_Now.f w k = some (w % 16 == k * 4 + 3) := by
  unfold relictref10_Now.f
  rw [u64_and15, wrap_u64, or_join 2 _ _ (by omega) (by omega) (by omega) (by omega) (by omega) (by omega)]
  congr 2
  omega
theorem ref_cut_eq (n : Int) : relictref10_cut.f n = some (cutI n) := by unfold relictref10_cut.f cutI mx mn; congr 1; (repeat' split) <;> omega
theorem ref_small_eq (a : Int) : relictref10_Small.f a = some ((smallI a * 16) % 18446744073709551616 + 3) := by
  have hb := smallI_bd a
  have e : mn (mx a (-576460752303423488)) 576460752303423487 = smallI a := by unfold smallI mx mn; (repeat' split) <;> omega
  unfold relictref10_Small.f
  rw [e, wrap_u64, wrap_u64, or_join 4 _ _ (by omega) (by omega) (by omega) (by omega) (by omega) (by omega)]
  congr 1
  omega
theorem ref_atom_eq (a : Int) : relictref10_AtomOf.f a = some (cutI a * 16 + 7) := by
  have hb := cutI_bd a
  unfold relictref10_AtomOf.f
  rw [ref_cut_eq]; simp only [Option.bind_some]
  rw [wrap_u64, or_join 4 _ _ (by omega) (by omega) (by omega) (by omega) (by omega) (by omega)]
  congr 1
  omega
theorem ref_catch_eq (a : Int) : relictref10_Catch.f a = some (cutI a * 16 + 15) := by
  have hb := cutI_bd a
  unfold relictref10_Catch.f
  rw [ref_cut_eq]; simp only [Option.bind_some]
  rw [wrap_u64, or_join 4 _ _ (by omega) (by omega) (by omega) (by omega) (by omega) (by omega)]
  congr 1
  omega
theorem ref_pointer_eq (t a : Int) : relictref10_Pointer.f t a = some (cutI a * 4 + t % 4) := by
  have hb := cutI_bd a
  unfold relictref10_Pointer.f
  rw [ref_cut_eq]; simp only [Option.bind_some]
  rw [i64_and3, wrap_u64, wrap_u64, or_join 2 _ _ (by omega) (by omega) (by omega) (by omega) (by omega) (by omega)]
  congr 1
  omega
theorem ref_head_eq (k a : Int) : relictref10_Head.f k a = some (cutI a * 64 + k % 16 * 4) := by
  have hb := cutI_bd a
  unfold relictref10_Head.f
  rw [ref_cut_eq]; simp only [Option.bind_some]
  rw [i64_and15, wrap_u64, wrap_u64, wrap_u64, or_join 6 _ _ (by omega) (by omega) (by omega) (by omega) (by omega) (by omega)]
  congr 1
  omega
theorem ref_tag_eq (w : Int) : relictref10_Tag.f w = some (w % 4) := by
  unfold relictref10_Tag.f; rw [u64_and3]; congr 1; unfold wrap64; omega
theorem ref_intOf_eq (w : Int) : relictref10_IntOf.f w = some (intOfI w) := by
  unfold relictref10_IntOf.f intOfI
  rw [ref_now_eq w 0 (by omega) (by omega)]; simp only [Option.bind_some]
  by_cases h : w % 16 = 3
  · rw [if_pos (by rw [beq_iff_eq]; omega), if_pos h]
  · rw [if_neg (by rw [beq_iff_eq]; omega), if_neg h]
theorem ref_isAtom_eq (w : Int) (h0 : 0 ≤ w) (h1 : w < 18446744073709551616) : relictref10_IsAtom.f w = some (isAtomI w) := by
  unfold relictref10_IsAtom.f isAtomI
  rw [ref_now_eq w 1 (by omega) (by omega)]; simp only [Option.bind_some]
  have e1 : wrap64 (w / 16) = w / 16 := by unfold wrap64; omega
  by_cases h : w % 16 = 7
  · rw [if_pos (by rw [beq_iff_eq]; omega), if_pos h, e1]
  · rw [if_neg (by rw [beq_iff_eq]; omega), if_neg h]
theorem ref_isCatch_eq (w : Int) (h0 : 0 ≤ w) (h1 : w < 18446744073709551616) : relictref10_IsCatch.f w = some (isCatchI w) := by
  unfold relictref10_IsCatch.f isCatchI
  rw [ref_now_eq w 3 (by omega) (by omega)]; simp only [Option.bind_some]
  have e1 : wrap64 (w / 16) = w / 16 := by unfold wrap64; omega
  by_cases h : w % 16 = 15
  · rw [if_pos (by rw [beq_iff_eq]; omega), if_pos h, e1]
  · rw [if_neg (by rw [beq_iff_eq]; omega), if_neg h]
theorem ref_at_eq (w : Int) (h0 : 0 ≤ w) (h1 : w < 18446744073709551616) : relictref10_At.f w = some (atI w) := by
  unfold relictref10_At.f atI
  rw [ref_tag_eq]; simp only [Option.bind_some]
  by_cases a : w % 4 = 1
  · rw [if_pos a, if_pos (.inl a)]; congr 1; unfold wrap64; omega
  · rw [if_neg a]
    by_cases b : w % 4 = 2
    · rw [if_pos b, if_pos (.inr b)]; congr 1; unfold wrap64; omega
    · rw [if_neg b, if_neg (by omega)]
theorem ref_headOf_eq (w : Int) (h0 : 0 ≤ w) (h1 : w < 18446744073709551616) : relictref10_HeadOf.f w = some (headOfI w) := by
  unfold relictref10_HeadOf.f headOfI
  rw [ref_tag_eq]; simp only [Option.bind_some]
  by_cases a : w % 4 = 0
  · rw [if_pos a, if_pos a, u64_and15]
    have e1 : wrap64 (w / 4 % 16) = w / 4 % 16 := by unfold wrap64; omega
    have e2 : wrap64 (w / 64) = w / 64 := by unfold wrap64; omega
    rw [e1, e2]
  · rw [if_neg a, if_neg a]

end Go.Proofs.YtbephainjmgpjaaWRef
