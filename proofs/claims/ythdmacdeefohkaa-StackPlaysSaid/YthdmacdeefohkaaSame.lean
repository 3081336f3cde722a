/- The contract of relictlaw00's SameWords at equal words. -/
import Derived.Test.YthdmacdeefohkaaMem
import Derived.Test.YthdmacdeefohkaaBits
import Derived.WalkKit
import Derived.KernelRfl
import Derived.BigQuiet
import Derived.Deep.QuietTactic
import Derived.Test.YthdmacdeefohkaaProg
namespace Go.Proofs.YthdmacdeefohkaaSame
open Go.RowKit Go.Proofs.YthdmacdeefohkaaW.PrintWords Go.Proofs.YthdmacdeefohkaaW.PrintLast Go.Proofs.YthdmacdeefohkaaW.PrintMore Go.Proofs.YthdmacdeefohkaaMem Go.Proofs.YthdmacdeefohkaaBits Go.Proofs
set_option linter.unusedVariables false
set_option linter.unusedSimpArgs false
set_option maxHeartbeats 4000000 in
set_option maxRecDepth 100000 in
theorem same_calls (w : World) (A A' : Option Addr) (m c c' : Nat) (xs : List Int) (h : ReadsInt w .u64 A m xs) (h' : ReadsInt w .u64 A' m xs) :
    Calls Try.prog 28 #[.slice A m c, .slice A' m c'] w fun e w' => e = .returned (.bool true) ∧ ∃ nd, w' = w.drewN nd := by
  have hm := h.2.1
  have H := Aside0.mk h
  have H' := Aside0.mk h'
  clear h h'
  go_enter Try.func28, Try.ntmps28
  go_wp2
  go_loopg [5] (m + 1) (fun k v5 wr => ∃ i : Nat, v5 = .int .i64 i ∧ i ≤ m ∧ k = m + 1 - i ∧ ∃ nd, wr = w.drewN nd)
  case atStart => exact ⟨0, rfl, by omega, by omega, 0, rfl⟩
  case round =>
    obtain ⟨i, rfl, hi, rfl, nd, rfl⟩ := hrel
    by_cases hlt : i < m
    · obtain ⟨ad, e1, hc⟩ := H.out.at_ (i : Int) (by omega) (by omega)
      obtain ⟨ad', e1', hc'⟩ := H'.out.at_ (i : Int) (by omega) (by omega)
      subst e1
      subst e1'
      rw [Int.toNat_natCast] at hc hc'
      generalize rd xs i = y at hc hc'
      have b1 : (i : Int) < (m : Int) := by omega
      go_wp2
      go_quiet (fail)
      go_wp2
      go_roundg (m + 1 - (i + 1))
      case measure => omega
      case rel => exact ⟨i + 1, by go_num, by omega, rfl, _, rfl⟩
    · have hie : i = m := by omega
      subst hie
      go_wp2
      go_ret
      exact ⟨by first | rfl | (simp; done), nd, rfl⟩
end Go.Proofs.YthdmacdeefohkaaSame
