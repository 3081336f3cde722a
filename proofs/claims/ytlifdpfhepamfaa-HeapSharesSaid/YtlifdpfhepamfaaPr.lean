/- relictlaw00.Proper: a list of any numbers, in plain Lean. -/
import Derived.Test.YtlifdpfhepamfaaHw
namespace Go.Proofs.YtlifdpfhepamfaaPr
open Go.RowKit Go.Maps Go.Proofs.YtlifdpfhepamfaaW.PrintWords Go.Proofs.YtlifdpfhepamfaaW.PrintLast Go.Proofs.YtlifdpfhepamfaaW.PrintMore Go.Proofs.YtlifdpfhepamfaaMem Go.Proofs.YtlifdpfhepamfaaLeaf Go.Proofs.YtlifdpfhepamfaaBits Go.Proofs.Ytlifdpfhepamfaa.PHe Go.Proofs.YtlifdpfhepamfaaRow Go.Proofs.YtlifdpfhepamfaaHt Go.Proofs.YtlifdpfhepamfaaHw Go.Proofs
set_option linter.unusedVariables false
set_option linter.unusedSimpArgs false
abbrev LT := Int × Bool × List Int × ByteArray × Int × List TT
def six_ (x : TT) : LT := (x.f0, x.f1.f0, x.f1.f1, x.f2, x.f3, x.f4)
theorem int_f (k : Nat) (v : Int) (h : -9223372036854775808 ≤ v ∧ v < 9223372036854775808) : relictref19_Int.f k v = some (six_ (IN v)) := by
  unfold relictref19_Int.f relictref02_Of.f
  rw [if_pos h]
  rfl
theorem LI_cons (v : Int) (vs : List Int) : LI (v :: vs) = ⟨4, ⟨false, []⟩, ⟨#[]⟩, 0, [IN v, LI vs]⟩ := rfl
theorem eta_ (x : TT) : (⟨x.f0, ⟨x.f1.f0, x.f1.f1⟩, x.f2, x.f3, x.f4⟩ : TT) = x := by cases x; rfl
theorem list_l (xs : List Int) : ∀ (i k : Nat) (ys : List Int), i < k → i ≤ xs.length → xs.length ≤ 1000 →
    relictref03_List.l0 k (xs.map IN) ((i : Int) - 1) (LI ys).f0 (LI ys).f1.f0 (LI ys).f1.f1 (LI ys).f2 (LI ys).f3 (LI ys).f4 = some (six_ (LI (xs.take i ++ ys)))
  | 0, k + 1, ys, _, _, _ => by
    unfold relictref03_List.l0
    rw [if_neg (by omega)]
    rfl
  | i + 1, k + 1, ys, hk, hi, hl => by
    unfold relictref03_List.l0
    have e1 : ((i + 1 : Nat) : Int) - 1 = (i : Int) := by omega
    have e2 : wrap64 ((i : Int) - 1) = (i : Int) - 1 := by unfold wrap64; omega
    have e3 : rd_T43 (xs.map IN) (i : Int) = IN (xs.getD i 0) := by
      unfold rd_T43
      rw [Int.toNat_natCast, List.getD_eq_getElem?_getD, List.getElem?_map, List.getD_eq_getElem?_getD, List.getElem?_eq_getElem (by omega)]
      rfl
    have ih := list_l xs i k (xs.getD i 0 :: ys) (by omega) (by omega) hl
    have e4 : xs.take i ++ (xs.getD i 0 :: ys) = xs.take (i + 1) ++ ys := by
      have hg : xs.getD i 0 = xs[i]'(by omega) := by rw [List.getD_eq_getElem?_getD, List.getElem?_eq_getElem (by omega)]; rfl
      rw [List.take_add_one, List.getElem?_eq_getElem (by omega), hg, List.append_assoc]
      rfl
    rw [e4, LI_cons] at ih
    rw [e1, if_pos (by omega), if_pos (by omega), if_pos (by rw [List.length_map]; omega), e2, e3, eta_, eta_]
    exact ih
theorem list_f (xs : List Int) (k : Nat) (hk : xs.length < k) (hl : xs.length ≤ 1000) : relictref03_List.f k (xs.map IN) 3 false ([] : List Int) (⟨#[]⟩ : ByteArray) 0 ([] : List TT) = some (six_ (LI xs)) := by
  unfold relictref03_List.f
  have h := list_l xs xs.length k [] hk (Nat.le_refl _) hl
  rw [List.take_length, List.append_nil] at h
  rw [List.length_map, show wrap64 ((xs.length : Int) - 1) = (xs.length : Int) - 1 by unfold wrap64; omega]
  exact h
theorem proper_l (xs : List Int) (hI : I64 xs) (hl : xs.length ≤ 60) : ∀ (d i k : Nat), i + d = xs.length → d + xs.length + 2 ≤ k → relictlaw00_Proper.l0 k xs ((xs.take i).map IN) (i : Int) = some (six_ (LI xs))
  | 0, i, k + 1, hi, hk => by
    unfold relictlaw00_Proper.l0
    rw [if_neg (by omega), show xs.take i = xs by rw [List.take_of_length_le (by omega)], list_f xs k (by omega) (by omega)]
    rfl
  | d + 1, i, k + 1, hi, hk => by
    unfold relictlaw00_Proper.l0
    have hx : rd xs (i : Int) = xs.getD i 0 := by unfold rd; rw [Int.toNat_natCast]
    have hm : xs.getD i 0 ∈ xs := by
      rw [List.getD_eq_getElem?_getD, List.getElem?_eq_getElem (by omega)]
      exact List.getElem_mem _
    rw [if_pos (by omega), if_pos (by omega), if_pos (by omega), hx, int_f k _ (hI _ hm)]
    simp only [Option.bind_some]
    rw [if_pos (by rw [List.length_map, List.length_take]; omega), show wrap64 ((i : Int) + 1) = ((i + 1 : Nat) : Int) by unfold wrap64; omega]
    have ih := proper_l xs hI hl d (i + 1) k (by omega) (by omega)
    have e4 : (xs.take (i + 1)).map IN = (xs.take i).map IN ++ [IN (xs.getD i 0)] := by
      have hg : xs.getD i 0 = xs[i]'(by omega) := by rw [List.getD_eq_getElem?_getD, List.getElem?_eq_getElem (by omega)]; rfl
      rw [List.take_add_one, List.map_append, List.getElem?_eq_getElem (by omega), hg]
      rfl
    rw [e4] at ih
    exact ih
/-- A list of numbers, no more than sixty. -/
theorem proper_f (xs : List Int) (hI : I64 xs) (hl : xs.length ≤ 60) : relictlaw00_Proper.f 200 xs = some ((LI xs).f0, (LI xs).f1.f0, (LI xs).f1.f1, (LI xs).f2, (LI xs).f3, (LI xs).f4) := by
  unfold relictlaw00_Proper.f
  exact proper_l xs hI hl xs.length 0 200 (by omega) (by omega)
end Go.Proofs.YtlifdpfhepamfaaPr
