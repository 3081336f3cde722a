/- CopyingRound: the walk. -/
import Derived.Test.YtlifdpfhepamfaaCnM
import Derived.Test.YtlifdpfhepamfaaRing
import Derived.Test.YtlifdpfhepamfaaRf
import Derived.Test.YtlifdpfhepamfaaPHe20
namespace Go.Proofs.YtlifdpfhepamfaaCo
open Go.RowKit Go.Maps Go.Proofs.YtlifdpfhepamfaaW.PrintWords Go.Proofs.YtlifdpfhepamfaaW.PrintLast Go.Proofs.YtlifdpfhepamfaaW.PrintMore Go.Proofs.YtlifdpfhepamfaaMem Go.Proofs.YtlifdpfhepamfaaLeaf Go.Proofs.YtlifdpfhepamfaaBits Go.Proofs.Ytlifdpfhepamfaa.PHe Go.Proofs.YtlifdpfhepamfaaRow Go.Proofs.YtlifdpfhepamfaaAr Go.Proofs.YtlifdpfhepamfaaHp Go.Proofs.YtlifdpfhepamfaaHo Go.Proofs.YtlifdpfhepamfaaWd Go.Proofs.YtlifdpfhepamfaaCp Go.Proofs.YtlifdpfhepamfaaCm Go.Proofs.YtlifdpfhepamfaaCk Go.Proofs.YtlifdpfhepamfaaCc Go.Proofs.YtlifdpfhepamfaaRd Go.Proofs.YtlifdpfhepamfaaRt Go.Proofs.YtlifdpfhepamfaaRe Go.Proofs.YtlifdpfhepamfaaRf Go.Proofs.YtlifdpfhepamfaaRing Go.Proofs
set_option linter.unusedVariables false
set_option linter.unusedSimpArgs false
theorem size_new {a : Int} {n : Nat} (ha : a = (n : Int)) (hn : n ≤ 32768) : sizeA a = n := by
  unfold sizeA
  subst ha
  by_cases h : n = 0
  · subst h; rfl
  · rw [if_neg (by omega), if_pos (by omega)]; rfl
theorem alloc_ok {l : List Int} {n k : Nat} (h : k + l.length ≤ n) : okA l n (k : Int) = true ∧ resA l n (k : Int) = l ++ List.replicate k 0 := by
  have ho : okA l n (k : Int) = true := by unfold okA; simp; omega
  exact ⟨ho, by unfold resA; rw [ho, if_pos rfl, Int.toNat_natCast]⟩
/-- A ring under way: the first cells are written. -/
structure Pt (l : List Int) (e k i : Nat) : Prop where
  len : l.length = e + 2 * k
  a : ∀ j, j < i → l.getD (e + 2 * j) 0 = 16 * (j : Int) + 3
  b : ∀ j, j < i → l.getD (e + 2 * j + 1) 0 = 4 * ((e + 2 * ((j + 1) % k) : Nat) : Int) + 1
theorem Pt.start (e k : Nat) : Pt (List.replicate e 0 ++ List.replicate (2 * k) 0) e k 0 := ⟨by simp, fun j hj => by omega, fun j hj => by omega⟩
theorem Pt.rg {l : List Int} {e k : Nat} (h : Pt l e k k) : Rg l e k := ⟨h.len, h.a, h.b⟩
theorem setA_nat {l : List Int} {t : Nat} {v : Int} (h : t < l.length) : setA l (t : Int) v = l.set t v := by
  unfold setA
  rw [if_pos (by omega), Int.toNat_natCast]
theorem Pt.step {l : List Int} {e k i : Nat} (h : Pt l e k i) (hi : i < k) : Pt (setA (setA l ((e + 2 * i : Nat) : Int) (16 * (i : Int) + 3)) ((e + 2 * i + 1 : Nat) : Int) (4 * ((e + 2 * ((i + 1) % k) : Nat) : Int) + 1)) e k (i + 1) := by
  have hl := h.len
  rw [setA_nat (l := l) (by omega), setA_nat (by simp; omega)]
  have g1 := fun v m => getD_set l v (e + 2 * i) m (by omega)
  have g2 := fun v m => getD_set (l.set (e + 2 * i) (16 * (i : Int) + 3)) v (e + 2 * i + 1) m (by simp; omega)
  refine ⟨by simp; omega, fun j hj => ?_, fun j hj => ?_⟩
  · rw [g2, if_neg (by omega), g1]
    by_cases q : j = i
    · subst q; rw [if_pos rfl]
    · rw [if_neg (by omega)]; exact h.a j (by omega)
  · rw [g2]
    by_cases q : j = i
    · subst q; rw [if_pos rfl]
    · rw [if_neg (by omega), g1, if_neg (by omega)]; exact h.b j (by omega)
/-- The words of a ring in its new place lead on for ever. -/
theorem fin_endless {to_ : List Int} {k f : Nat} (hk : 0 < k) (hk1 : k ≤ 40) (hf : f < k) (F : Fin k f to_) : Endless to_ (fun x => ∃ j, j < k ∧ x = px (2 * j)) := by
  rintro x ⟨j, hj, rfl⟩
  obtain ⟨p1, p2, p3⟩ := px_at (2 * j)
  have hm : (f + j) % k < k := Nat.mod_lt _ hk
  have hc := F.ca j hj
  have hb := F.cb j hj
  have hl := F.len
  have h3 : to_.getD (2 * j) 0 % 4 = 3 := by rw [hc]; omega
  have hs : smallW (((f + j) % k : Nat) : Int) = 16 * (((f + j) % k : Nat) : Int) + 3 := by unfold smallW; omega
  refine ⟨by unfold px; omega, by unfold px; omega, p2, good_cell h3 (by omega), by rw [p1]; omega, by rw [p1]; omega, ⟨(((f + j) % k : Nat) : Int), by omega, by omega, ?_⟩, ?_⟩
  · rw [p1, word_nat (by omega), hc, hs]
  · have hx := word_nat (l := to_) (t := 2 * j + 1) (by omega)
    rw [hb] at hx
    rw [p1, show ((2 * j : Nat) : Int) + 1 = ((2 * j + 1 : Nat) : Int) by omega, hx]
    exact ⟨(j + 1) % k, Nat.mod_lt _ hk, rfl⟩
end Go.Proofs.YtlifdpfhepamfaaCo
