/- WordOrders: a number beyond an edge becomes the edge; a head keeps its kind and its size; a place stays under either tag; no condition. -/
import Derived.Test.YtbephainjmgpjaaWmWordOrders
namespace Go.Proofs.Ytbephainjmgpjaa.Pure
open Go.RowKit Go.Proofs.Ytbephainjmgpjaa.PWordOrders Go.Proofs.YtbephainjmgpjaaBits Go.Proofs.YtbephainjmgpjaaW.PrintWords Go.Proofs.YtbephainjmgpjaaW.PrintLast Go.Proofs.YtbephainjmgpjaaW.PrintMore
theorem place_eq (v n : Int) (h0 : 0 < n) (h1 : n ≤ 1152921504606846976) : relictlaw00_Place.f v n = some (v % n) := by
  unfold relictlaw00_Place.f
  have e0 := Int.emod_nonneg v (show n ≠ 0 by omega)
  have e1 := Int.emod_lt_of_pos v h0
  rw [if_neg (by omega)]
  have ht : v.tmod n = v % n ∨ v.tmod n = v % n - n := by
    rw [Int.tmod_eq_emod]; split <;> omega
  by_cases h : v.tmod n < 0
  · rw [if_pos h]
    have : v.tmod n + n = v % n := by omega
    rw [this]; congr 1; unfold wrap64; omega
  · rw [if_neg h]; congr 1; omega
theorem WordOrders : relictlaw10_WordOrders.Pure := by
  intro a0 a1 a2 a3 _ _ _ _
  unfold relictlaw10_WordOrders.f
  rw [place_eq a1 _ (by decide) (by decide), place_eq a2 _ (by decide) (by decide), place_eq a3 _ (by decide) (by decide)]
  simp only [bindS]
  obtain ⟨p, hp⟩ : ∃ p, a1 % 1099511627776 = p := ⟨_, rfl⟩
  have hp0 : 0 ≤ p ∧ p < 1099511627776 := by omega
  obtain ⟨t, ht⟩ : ∃ t, wrap64 (1 + a3 % 2) = t := ⟨_, rfl⟩
  have ht0 : t = 1 ∨ t = 2 := by rw [← ht]; unfold wrap64; omega
  have hm : mn (mx a0 (-576460752303423488)) 576460752303423487 = smallI a0 := by unfold smallI mx mn; (repeat' split) <;> omega
  rw [hp, ht, hm]
  clear hp ht hm
  have ip : cutI p = p := cutI_id (by omega) (by omega)
  obtain ⟨s, is_⟩ : ∃ s, smallI a0 = s := ⟨_, rfl⟩
  have hs0 : -576460752303423488 ≤ s ∧ s ≤ 576460752303423487 := by rw [← is_]; exact smallI_bd a0
  simp only [small_eq, pointer_eq, head_eq, tag_eq, intOf_eq, awake_eq, bindS, ip, is_]
  rw [headOf_eq _ (by omega) (by omega), at_eq _ (by omega) (by omega), at_eq _ (by omega) (by omega)]
  simp only [bindS]
  have f1 : intOfI ((s * 16) % 18446744073709551616 + 3) = (s, true) := by
    unfold intOfI; rw [if_pos (by omega)]; congr 1; unfold wrap64; omega
  have f4 : headOfI (p * 64 + a2 % 16 * 4) = (a2 % 16, p, true) := by
    unfold headOfI; rw [if_pos (by omega)]
    have e1 : (p * 64 + a2 % 16 * 4) / 4 % 16 = a2 % 16 := by omega
    have e2 : (p * 64 + a2 % 16 * 4) / 64 = p := by omega
    rw [e1, e2]
  have f9 : atI (p * 4 + t % 4) = p := by unfold atI; rw [if_pos (by omega)]; omega
  have f10 : atI (p * 64 + a2 % 16 * 4) = -1 := by unfold atI; rw [if_neg (by omega)]
  have f11 : (p * 4 + t % 4) % 4 = t := by omega
  have f12 : (11 : Int) % 4 = 3 := by decide
  simp only [f1, f4, f9, f10, f11, f12, if_true]
end Go.Proofs.Ytbephainjmgpjaa.Pure
