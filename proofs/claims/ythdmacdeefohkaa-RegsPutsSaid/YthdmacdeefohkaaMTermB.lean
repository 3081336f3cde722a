/- Whether a term is light. -/
import Derived.Test.YthdmacdeefohkaaMTermA
import Derived.Test.YthdmacdeefohkaaPMa6
namespace Go.Proofs.YthdmacdeefohkaaMTerm
open Go.RowKit Go.Proofs.YthdmacdeefohkaaW.PrintWords Go.Proofs.YthdmacdeefohkaaW.PrintLast Go.Proofs.YthdmacdeefohkaaW.PrintMore Go.Proofs.YthdmacdeefohkaaMem Go.Proofs.YthdmacdeefohkaaLeaf Go.Proofs.YthdmacdeefohkaaBits Go.Proofs.Ythdmacdeefohkaa.PMa Go.Proofs
set_option linter.unusedVariables false
set_option linter.unusedSimpArgs false
/-- Light ends. -/
theorem light_total : ∀ (m : Nat) (kind : Int) (neg : Bool) (l : List Int) (s : ByteArray) (N : Int) (kids : List S45), m ≤ 1000 → ∃ k r, relictlaw00_light.f k kind neg l s N kids (m : Int) = some r ∧ r < (m : Int) ∧ -1 ≤ r := by
  intro m
  induction m using Nat.strongRecOn with
  | ind m ih =>
    intro kind neg l s N kids hm
    have hw : wrap64 ((m : Int) - 1) = (m : Int) - 1 := by unfold wrap64; omega
    have loop : ∀ (d : Nat) (x1 : Int) (i : Nat), -1 ≤ x1 → x1 < (m : Int) → x1 + 1 ≤ d → (i : Int) + x1 ≤ (m : Int) → ∃ k r, relictlaw00_light.l0 k x1 (i : Int) kind neg l s N kids = some r ∧ r < (m : Int) ∧ -1 ≤ r := by
      intro d
      induction d with
      | zero =>
        intro x1 i h0 h1 hd hi
        refine ⟨1, x1, ?_, h1, h0⟩
        simp only [relictlaw00_light.l0]
        split
        · rw [if_neg (by omega)]
        · rfl
      | succ d ihd =>
        intro x1 i h0 h1 hd hi
        by_cases hlt : (i : Int) < (kids.length : Int)
        · by_cases hx : x1 ≥ 0
          · obtain ⟨n, rfl⟩ : ∃ n : Nat, x1 = (n : Int) := ⟨x1.toNat, by omega⟩
            obtain ⟨k1, r1, e1, e2, e3⟩ := ih n (by omega) (rd_T45 kids (i : Int)).f0 (rd_T45 kids (i : Int)).f1.f0 (rd_T45 kids (i : Int)).f1.f1 (rd_T45 kids (i : Int)).f2 (rd_T45 kids (i : Int)).f3 (rd_T45 kids (i : Int)).f4 (by omega)
            obtain ⟨k2, r2, q1, q2, q3⟩ := ihd r1 (i + 1) e3 (by omega) (by omega) (by omega)
            have m1 : ∀ a b, a ≤ b → ∀ r, relictlaw00_light.f a (rd_T45 kids (i : Int)).f0 (rd_T45 kids (i : Int)).f1.f0 (rd_T45 kids (i : Int)).f1.f1 (rd_T45 kids (i : Int)).f2 (rd_T45 kids (i : Int)).f3 (rd_T45 kids (i : Int)).f4 (n : Int) = some r → relictlaw00_light.f b (rd_T45 kids (i : Int)).f0 (rd_T45 kids (i : Int)).f1.f0 (rd_T45 kids (i : Int)).f1.f1 (rd_T45 kids (i : Int)).f2 (rd_T45 kids (i : Int)).f3 (rd_T45 kids (i : Int)).f4 (n : Int) = some r := by
              intro a b hab
              induction b with
              | zero => intro r h; obtain rfl : a = 0 := by omega
                        exact h
              | succ b ihb =>
                intro r h
                by_cases he : a = b + 1
                · subst he; exact h
                · exact (relictlaw00_light.mono_l b).1 _ _ _ _ _ _ _ r (ihb (by omega) r h)
            have m2 : ∀ a b, a ≤ b → ∀ r, relictlaw00_light.l0 a r1 ((i + 1 : Nat) : Int) kind neg l s N kids = some r → relictlaw00_light.l0 b r1 ((i + 1 : Nat) : Int) kind neg l s N kids = some r := by
              intro a b hab
              induction b with
              | zero => intro r h; obtain rfl : a = 0 := by omega
                        exact h
              | succ b ihb =>
                intro r h
                by_cases he : a = b + 1
                · subst he; exact h
                · exact (relictlaw00_light.mono_l b).2.2 _ _ _ _ _ _ _ _ r (ihb (by omega) r h)
            refine ⟨max k1 k2 + 1, r2, ?_, q2, q3⟩
            simp only [relictlaw00_light.l0]
            rw [if_pos hlt, if_pos hx, if_pos (by omega), m1 k1 _ (Nat.le_max_left _ _) _ e1, bindS, show wrap64 ((i : Int) + 1) = ((i + 1 : Nat) : Int) by unfold wrap64; omega]
            exact m2 k2 _ (Nat.le_max_right _ _) _ q1
          · refine ⟨1, x1, ?_, h1, h0⟩
            simp only [relictlaw00_light.l0]
            rw [if_pos hlt, if_neg hx]
        · refine ⟨1, x1, ?_, h1, h0⟩
          simp only [relictlaw00_light.l0]
          rw [if_neg hlt]
    have fin : ∀ b : Bool, ∃ k r, relictlaw00_light.j0 k ((m : Int) - 1) b kind neg l s N kids = some r ∧ r < (m : Int) ∧ -1 ≤ r := by
      intro b
      cases b with
      | true => exact ⟨1, -1, by simp [relictlaw00_light.j0], by omega, by omega⟩
      | false =>
        obtain ⟨k, r, q1, q2, q3⟩ := loop m ((m : Int) - 1) 0 (by omega) (by omega) (by omega) (by omega)
        exact ⟨k + 1, r, by simp only [relictlaw00_light.j0]; rw [if_neg (by decide)]; exact q1, q2, q3⟩
    by_cases h40 : (l.length : Int) > 40
    · obtain ⟨k, r, q1, q2, q3⟩ := fin true
      exact ⟨k + 1, r, by simp only [relictlaw00_light.f]; rw [if_pos h40, hw]; exact q1, q2, q3⟩
    · obtain ⟨k, r, q1, q2, q3⟩ := fin (decide ((s.size : Int) > 500))
      exact ⟨k + 1, r, by simp only [relictlaw00_light.f]; rw [if_neg h40, hw]; exact q1, q2, q3⟩
theorem Light_total (m : Nat) (hm : m ≤ 1000) (x : S45) : ∃ k r, relictlaw00_Light.f k x.f0 x.f1.f0 x.f1.f1 x.f2 x.f3 x.f4 (m : Int) = some r := by
  obtain ⟨k, r, h, _⟩ := light_total m x.f0 x.f1.f0 x.f1.f1 x.f2 x.f3 x.f4 hm
  exact ⟨k, _, by unfold relictlaw00_Light.f; rw [h, bindS]⟩
end Go.Proofs.YthdmacdeefohkaaMTerm
