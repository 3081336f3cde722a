/- What the package word's functions compute, in plain arithmetic. -/
import Derived.Test.YtbephainjmgpjaaBits
import Derived.Test.YtbephainjmgpjaaPWordAllx1
namespace Go.Proofs.Ytbephainjmgpjaa.PWordAll
open Go.RowKit Go.Proofs.YtbephainjmgpjaaBits Go.Proofs.YtbephainjmgpjaaW.PrintWords Go.Proofs.YtbephainjmgpjaaW.PrintLast Go.Proofs.YtbephainjmgpjaaW.PrintMore
/-- A place within bounds. -/
def cutI (n : Int) : Int := if n < 0 then 0 else if 1099511627776 < n then 1099511627776 else n
/-- A small integer within bounds. -/
def smallI (n : Int) : Int := if n < -576460752303423488 then -576460752303423488 else if 576460752303423487 < n then 576460752303423487 else n
theorem cutI_bd (n : Int) : 0 ≤ cutI n ∧ cutI n ≤ 1099511627776 := by unfold cutI; (repeat' split) <;> omega
theorem smallI_bd (n : Int) : -576460752303423488 ≤ smallI n ∧ smallI n ≤ 576460752303423487 := by unfold smallI; (repeat' split) <;> omega
theorem cutI_id {n : Int} (h0 : 0 ≤ n) (h1 : n ≤ 1099511627776) : cutI n = n := by unfold cutI; (repeat' split) <;> omega
theorem smallI_id {n : Int} (h0 : -576460752303423488 ≤ n) (h1 : n ≤ 576460752303423487) : smallI n = n := by unfold smallI; (repeat' split) <;> omega
theorem cut_eq (n : Int) : word_cut.f n = some (cutI n) := by unfold word_cut.f cutI mx mn; congr 1; (repeat' split) <;> omega
theorem now_eq (k v : Int) (h0 : 0 ≤ k) (h1 : k < 4) : word_now.f k v = some ((v * 16) % 18446744073709551616 + k * 4 + 3) := by
  unfold word_now.f
  have e1 : IntKind.u64.wrap ((IntKind.u64.wrap k) * 4) = k * 4 := by rw [wrap_u64, wrap_u64]; omega
  rw [e1, wrap_u64, or_join 4 (v * 16 % 18446744073709551616) (k * 4) (by omega) (by omega) (by omega) (by omega) (by omega) (by omega), or_join 2 _ _ (by omega) (by omega) (by omega) (by omega) (by omega) (by omega)]
theorem small_arg (a : Int) : IntKind.u64.wrap (mx (-576460752303423488) (mn a 576460752303423487)) = smallI a % 18446744073709551616 := by
  have e : mx (-576460752303423488) (mn a 576460752303423487) = smallI a := by unfold smallI mx mn; (repeat' split) <;> omega
  rw [e, wrap_u64]
theorem small_eq (a : Int) : word_Small.f a = some ((smallI a * 16) % 18446744073709551616 + 3) := by
  have hb := smallI_bd a
  unfold word_Small.f
  rw [small_arg, now_eq 0 _ (by omega) (by omega)]
  simp only [Option.bind_some]
  congr 1
  omega
theorem small_bd (a : Int) : 0 ≤ (smallI a * 16) % 18446744073709551616 + 3 ∧ (smallI a * 16) % 18446744073709551616 + 3 < 18446744073709551616 := by omega
theorem atom_eq (a : Int) : word_AtomOf.f a = some (cutI a * 16 + 7) := by
  have hb := cutI_bd a
  unfold word_AtomOf.f
  rw [cut_eq]; simp only [Option.bind_some]
  rw [now_eq 1 _ (by omega) (by omega)]; simp only [Option.bind_some]
  congr 1
  omega
theorem catch_eq (a : Int) : word_Catch.f a = some (cutI a * 16 + 15) := by
  have hb := cutI_bd a
  unfold word_Catch.f
  rw [cut_eq]; simp only [Option.bind_some]
  rw [now_eq 3 _ (by omega) (by omega)]; simp only [Option.bind_some]
  congr 1
  omega
theorem pointer_eq (t a : Int) : word_Pointer.f t a = some (cutI a * 4 + t % 4) := by
  have hb := cutI_bd a
  unfold word_Pointer.f
  rw [cut_eq]; simp only [Option.bind_some]
  rw [i64_and3, wrap_u64, wrap_u64, or_join 2 _ _ (by omega) (by omega) (by omega) (by omega) (by omega) (by omega)]
  congr 1
  omega
theorem head_eq (k a : Int) : word_Head.f k a = some (cutI a * 64 + k % 16 * 4) := by
  have hb := cutI_bd a
  unfold word_Head.f
  rw [cut_eq]; simp only [Option.bind_some]
  rw [i64_and15, wrap_u64, wrap_u64, wrap_u64, or_join 6 _ _ (by omega) (by omega) (by omega) (by omega) (by omega) (by omega)]
  congr 1
  omega
theorem is_eq (w k : Int) (h0 : 0 ≤ k) (h1 : k < 4) : word_is.f w k = some (w % 16 == k * 4 + 3) := by
  unfold word_is.f
  have e1 : IntKind.u64.wrap ((IntKind.u64.wrap k) * 4) = k * 4 := by rw [wrap_u64, wrap_u64]; omega
  rw [u64_and15, e1, or_join 2 _ _ (by omega) (by omega) (by omega) (by omega) (by omega) (by omega)]
theorem tag_eq (w : Int) : word_Tag.f w = some (w % 4) := by
  unfold word_Tag.f; rw [u64_and3]; congr 1; unfold wrap64; omega
/-- A small integer's number, by the word. -/
def intOfI (w : Int) : Int × Bool := if w % 16 = 3 then (wrap64 w / 16, true) else (0, false)
theorem intOf_eq (w : Int) : word_IntOf.f w = some (intOfI w) := by
  unfold word_IntOf.f intOfI
  rw [is_eq w 0 (by omega) (by omega)]; simp only [Option.bind_some]
  by_cases h : w % 16 = 3
  · rw [if_pos (by rw [beq_iff_eq]; omega), if_pos h]
  · rw [if_neg (by rw [beq_iff_eq]; omega), if_neg h]
/-- The place of a list or a box. -/
def atI (w : Int) : Int := if w % 4 = 1 ∨ w % 4 = 2 then w / 4 else -1
theorem at_eq (w : Int) (h0 : 0 ≤ w) (h1 : w < 18446744073709551616) : word_At.f w = some (atI w) := by
  unfold word_At.f atI
  rw [tag_eq]; simp only [Option.bind_some]
  by_cases a : w % 4 = 1
  · rw [if_pos a, if_pos (.inl a)]; congr 1; unfold wrap64; omega
  · rw [if_neg a]
    by_cases b : w % 4 = 2
    · rw [if_pos b, if_pos (.inr b)]; congr 1; unfold wrap64; omega
    · rw [if_neg b, if_neg (by omega)]
/-- A head's kind and size. -/
def headOfI (w : Int) : Int × Int × Bool := if w % 4 = 0 then (w / 4 % 16, w / 64, true) else (0, 0, false)
theorem headOf_eq (w : Int) (h0 : 0 ≤ w) (h1 : w < 18446744073709551616) : word_HeadOf.f w = some (headOfI w) := by
  unfold word_HeadOf.f headOfI
  rw [tag_eq]; simp only [Option.bind_some]
  by_cases a : w % 4 = 0
  · rw [if_pos a, if_pos a, u64_and15]
    have e1 : wrap64 (w / 4 % 16) = w / 4 % 16 := by unfold wrap64; omega
    have e2 : wrap64 (w / 64) = w / 64 := by unfold wrap64; omega
    rw [e1, e2]
  · rw [if_neg a, if_neg a]
/-- An atom's number, by the word. -/
def isAtomI (w : Int) : Int × Bool := if w % 16 = 7 then (w / 16, true) else (0, false)
theorem isAtom_eq (w : Int) (h0 : 0 ≤ w) (h1 : w < 18446744073709551616) : word_IsAtom.f w = some (isAtomI w) := by
  unfold word_IsAtom.f isAtomI
  rw [is_eq w 1 (by omega) (by omega)]; simp only [Option.bind_some]
  have e1 : wrap64 (w / 16) = w / 16 := by unfold wrap64; omega
  by_cases h : w % 16 = 7
  · rw [if_pos (by rw [beq_iff_eq]; omega), if_pos h, e1]
  · rw [if_neg (by rw [beq_iff_eq]; omega), if_neg h]
/-- A catch's label. -/
def isCatchI (w : Int) : Int × Bool := if w % 16 = 15 then (w / 16, true) else (0, false)
theorem isCatch_eq (w : Int) (h0 : 0 ≤ w) (h1 : w < 18446744073709551616) : word_IsCatch.f w = some (isCatchI w) := by
  unfold word_IsCatch.f isCatchI
  rw [is_eq w 3 (by omega) (by omega)]; simp only [Option.bind_some]
  have e1 : wrap64 (w / 16) = w / 16 := by unfold wrap64; omega
  by_cases h : w % 16 = 15
  · rw [if_pos (by rw [beq_iff_eq]; omega), if_pos h, e1]
  · rw [if_neg (by rw [beq_iff_eq]; omega), if_neg h]
theorem aw1 : word_Small.f (-7) = some 18446744073709551507 := by
  rw [small_eq, smallI_id (by omega) (by omega)]; congr 1
theorem aw2 : word_Small.f 5 = some 83 := by
  rw [small_eq, smallI_id (by omega) (by omega)]; congr 1
theorem aw3 : word_IntOf.f 18446744073709551507 = some (-7, true) := by
  rw [intOf_eq]; unfold intOfI; rw [if_pos (by omega)]
  have : wrap64 18446744073709551507 / 16 = -7 := by unfold wrap64; omega
  rw [this]
theorem aw4 : word_Pointer.f 2 9 = some 38 := by
  rw [pointer_eq, cutI_id (by omega) (by omega)]; congr 1
theorem aw5 : word_Pointer.f 1 9 = some 37 := by
  rw [pointer_eq, cutI_id (by omega) (by omega)]; congr 1
theorem aw6 : word_At.f 37 = some 9 := by
  rw [at_eq _ (by omega) (by omega)]; unfold atI; rw [if_pos (by omega)]; congr 1
theorem aw7 : word_Tag.f 38 = some 2 := by rw [tag_eq]; congr 1
theorem awake_eq : relictlaw10_awake.f = some true := by
  rw [relictlaw10_awake.f, aw1, Option.bind_some, aw3, Option.bind_some, aw2, Option.bind_some, if_pos rfl, if_pos rfl, if_pos rfl, aw4, Option.bind_some, aw7, Option.bind_some, if_pos rfl, aw5, Option.bind_some, aw6, Option.bind_some]
  rw [show ((9 : Int) == 9) = true from beq_self_eq_true 9]
end Go.Proofs.Ytbephainjmgpjaa.PWordAll
