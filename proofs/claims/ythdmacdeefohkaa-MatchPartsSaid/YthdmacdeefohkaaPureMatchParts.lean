/- MatchParts, the plain part: taken apart piece by piece, the pieces together are the binary. -/
import Derived.Test.YthdmacdeefohkaaPMa12
namespace Go.Proofs.Ythdmacdeefohkaa.Pure
open Go.RowKit Go.Proofs.Ythdmacdeefohkaa.PMa Go.Proofs.YthdmacdeefohkaaW.PrintWords Go.Proofs.YthdmacdeefohkaaW.PrintLast
set_option linter.unusedVariables false
set_option linter.unusedSimpArgs false

theorem place_tells (x : Int) : ∃ t : Nat, relictlaw00_Place.f x 12 = some (t : Int) ∧ t < 12 := by
  have hb : -12 < Int.tmod x 12 ∧ Int.tmod x 12 < 12 := by
    rcases Int.le_total 0 x with h | h
    · rw [Int.tmod_eq_emod_of_nonneg h]; omega
    · have : Int.tmod x 12 = -((-x) % 12) := by rw [← Int.tmod_eq_emod_of_nonneg (by omega), Int.neg_tmod, Int.neg_neg]
      rw [this]; omega
  unfold relictlaw00_Place.f
  rw [if_neg (by decide)]
  split
  · refine ⟨(Int.tmod x 12 + 12).toNat, ?_, by omega⟩
    unfold wrap64; congr 1; omega
  · refine ⟨(Int.tmod x 12).toNat, ?_, by omega⟩
    congr 1; omega
theorem at_tells (s : ByteArray) (p : Nat) (h : p ≤ s.size) : match_at.f 8 false [] s (p : Int) [] = some (p : Int) := by
  unfold match_at.f mx mn
  congr 1
  (repeat' split) <;> omega
theorem left_tells (s : ByteArray) (p : Nat) (h : p ≤ s.size) (hs : s.size ≤ 400) : match_Left.f 8 false [] s (p : Int) [] = some ((s.size - p : Nat) : Int) := by
  unfold match_Left.f
  rw [if_pos rfl, at_tells s p h]
  simp only [Go.Proofs.YthdmacdeefohkaaBits.bindS]
  unfold wrap64; congr 1; omega
theorem bytes_yes (s : ByteArray) (p t k : Nat) (h : p + t ≤ s.size) (hs : s.size ≤ 400) : match_Bytes.f (k + 1) 8 false [] s (p : Int) [] (t : Int) = some (6, false, [], s.extract p (p + t), 0, [], 8, false, [], s, ((p + t : Nat) : Int), [], true) := by
  have hw : wrap64 ((p : Int) + (t : Int)) = ((p + t : Nat) : Int) := by unfold wrap64; omega
  unfold match_Bytes.f
  rw [if_neg (by omega), if_neg (by omega), left_tells s p (by omega) hs]
  simp only [Go.Proofs.YthdmacdeefohkaaBits.bindS, match_Bytes.j0]
  rw [if_neg (by simp; omega), at_tells s p (by omega)]
  simp only [Go.Proofs.YthdmacdeefohkaaBits.bindS, hw]
  rw [if_pos (by omega), if_pos (by omega), if_pos (by omega)]
  unfold match_behind.f
  rw [at_tells s p (by omega)]
  simp only [Go.Proofs.YthdmacdeefohkaaBits.bindS, hw, Int.toNat_natCast]
theorem bytes_no (s : ByteArray) (p t k : Nat) (h : p ≤ s.size) (ht : s.size < p + t) (h12 : t < 12) (hs : s.size ≤ 400) : match_Bytes.f (k + 1) 8 false [] s (p : Int) [] (t : Int) = some (0, false, [], ⟨#[]⟩, 0, [], 0, false, [], ⟨#[]⟩, 0, [], false) := by
  unfold match_Bytes.f
  rw [if_neg (by omega), if_neg (by omega), left_tells s p h hs]
  simp only [Go.Proofs.YthdmacdeefohkaaBits.bindS, match_Bytes.j0]
  rw [if_pos (by simp; omega)]
theorem rest_tells (s : ByteArray) (p : Nat) (h : p ≤ s.size) : match_Rest.f 8 false [] s (p : Int) [] = some (6, false, [], s.extract p s.size, 0, []) := by
  unfold match_Rest.f
  rw [if_pos rfl, at_tells s p h]
  simp only [Go.Proofs.YthdmacdeefohkaaBits.bindS]
  rw [if_pos (by omega), if_pos (by omega), Int.toNat_natCast]
theorem glue (s : ByteArray) (p q : Nat) (h : p ≤ q) : s.extract 0 p ++ s.extract p q = s.extract 0 q := by
  rw [ByteArray.extract_append_extract, Nat.min_eq_left (Nat.zero_le _), Nat.max_eq_right h]
theorem loop_end (a0 : ByteArray) (l1 : List Int) (hs : a0.size ≤ 400) (k p : Nat) (i : Int) (hp : p ≤ a0.size) :
    relictlaw20_MatchParts.j1 (k + 1) a0 l1 (a0.extract 0 p) i false 8 false [] a0 (p : Int) [] = some true := by
  simp only [relictlaw20_MatchParts.j1]
  rw [if_neg (by decide), rest_tells a0 p hp]
  simp only [Go.Proofs.YthdmacdeefohkaaBits.bindS, glue a0 p a0.size hp, ByteArray.extract_zero_size, if_true, ByteArray.size_extract]
  rw [if_pos (by omega)]
  rfl
theorem loop_tells (a0 : ByteArray) (l1 : List Int) (hs : a0.size ≤ 400) (hl : l1.length ≤ maxLen) : ∀ (d k p i : Nat), l1.length ≤ i + d → p ≤ a0.size → 4 * d + 4 ≤ k →
    relictlaw20_MatchParts.l0 k a0 l1 (a0.extract 0 p) (i : Int) 8 false [] a0 (p : Int) [] = some true := by
  intro d
  induction d with
  | zero =>
    intro k p i hi hp hk
    obtain ⟨k, rfl⟩ : ∃ m, k = m + 2 := ⟨k - 2, by omega⟩
    simp only [relictlaw20_MatchParts.l0]
    rw [if_neg (by omega)]
    exact loop_end a0 l1 hs k p i hp
  | succ d ih =>
    intro k p i hi hp hk
    obtain ⟨k, rfl⟩ : ∃ m, k = m + 4 := ⟨k - 4, by omega⟩
    simp only [relictlaw20_MatchParts.l0]
    by_cases hlt : (i : Int) < (l1.length : Int)
    · rw [if_pos hlt]
      by_cases h40 : (i : Int) < 40
      · simp only [relictlaw20_MatchParts.j1, decide_eq_true h40, if_true]
        rw [if_pos (by omega), if_pos hlt]
        obtain ⟨t, ht, h12⟩ := place_tells (rd l1 (i : Int))
        rw [ht]
        simp only [Go.Proofs.YthdmacdeefohkaaBits.bindS]
        rw [left_tells a0 p hp hs]
        simp only [Go.Proofs.YthdmacdeefohkaaBits.bindS]
        have hw : wrap64 ((i : Int) + 1) = ((i + 1 : Nat) : Int) := by unfold wrap64; omega
        by_cases hle : p + t ≤ a0.size
        · rw [bytes_yes a0 p t (k + 1) hle hs]
          have hd : decide ((t : Int) ≤ ((a0.size - p : Nat) : Int)) = true := decide_eq_true (by omega)
          simp only [Go.Proofs.YthdmacdeefohkaaBits.bindS, hd, bne_self_eq_false, Bool.false_eq_true, if_false, if_true]
          simp only [relictlaw20_MatchParts.j2]
          have hsz : (((a0.extract p (p + t)).size : Int) != (t : Int)) = false := by rw [bne_eq_false_iff_eq, ByteArray.size_extract]; omega
          rw [hsz]
          simp only [Bool.false_eq_true, if_false, if_true, glue a0 p (p + t) (by omega)]
          rw [left_tells a0 (p + t) hle hs, if_pos (by simp only [ByteArray.size_extract]; omega)]
          simp only [Go.Proofs.YthdmacdeefohkaaBits.bindS]
          rw [if_pos (by rw [ByteArray.size_extract]; unfold wrap64; omega), hw]
          exact ih _ (p + t) (i + 1) (by omega) hle (by omega)
        · rw [bytes_no a0 p t (k + 1) hp (by omega) h12 hs]
          have hd : decide ((t : Int) ≤ ((a0.size - p : Nat) : Int)) = false := decide_eq_false (by omega)
          simp only [Go.Proofs.YthdmacdeefohkaaBits.bindS, hd, bne_self_eq_false, Bool.false_eq_true, if_false, if_true]
          simp only [relictlaw20_MatchParts.j2]
          simp only [Bool.false_eq_true, if_false, if_true]
          rw [left_tells a0 p hp hs]
          simp only [Go.Proofs.YthdmacdeefohkaaBits.bindS]
          rw [if_pos (by rw [ByteArray.size_extract]; unfold wrap64; omega), hw]
          exact ih _ p (i + 1) (by omega) hp (by omega)
      · rw [decide_eq_false h40]
        exact loop_end a0 l1 hs (k + 2) p i hp
    · rw [if_neg hlt]
      exact loop_end a0 l1 hs (k + 2) p i hp
theorem MatchParts : relictlaw20_MatchParts.Pure := by
  intro a0 l1 _ hl _ _
  refine ⟨4 * l1.length + 8, ?_⟩
  unfold relictlaw20_MatchParts.f
  by_cases h : (a0.size : Int) > 400
  · rw [if_pos h]; rfl
  · rw [if_neg h]
    have : match_Start.f 6 false [] a0 0 [] = some (8, false, [], a0, 0, [], true) := rfl
    rw [this]
    simp only [Go.Proofs.YthdmacdeefohkaaBits.bindS, if_true]
    have := loop_tells a0 l1 (by omega) hl l1.length (4 * l1.length + 8) 0 0 (by omega) (by omega) (by omega)
    have e : a0.extract 0 0 = (⟨#[]⟩ : ByteArray) := by apply ByteArray.ext; simp
    rw [e] at this
    exact this

end Go.Proofs.Ythdmacdeefohkaa.Pure
