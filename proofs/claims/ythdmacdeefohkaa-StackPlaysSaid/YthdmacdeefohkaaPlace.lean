/- The contract of relictlaw00's Place: any number as one from 0 to n - 1. -/
import Derived.Test.YthdmacdeefohkaaMem
import Derived.Test.YthdmacdeefohkaaBits
import Derived.WalkKit
import Derived.KernelRfl
import Derived.BigQuiet
import Derived.Deep.QuietTactic
import Derived.Test.YthdmacdeefohkaaProg
namespace Go.Proofs.YthdmacdeefohkaaPl
open Go.RowKit Go.Proofs.YthdmacdeefohkaaW.PrintWords Go.Proofs.YthdmacdeefohkaaW.PrintLast Go.Proofs.YthdmacdeefohkaaW.PrintMore Go.Proofs.YthdmacdeefohkaaMem Go.Proofs.YthdmacdeefohkaaBits Go.Proofs
theorem tmod_or (v n : Int) (h0 : 0 < n) : v.tmod n = v % n ∨ v.tmod n = v % n - n := by
  have e0 := Int.emod_nonneg v (show n ≠ 0 by omega)
  rw [Int.tmod_eq_emod]; split <;> omega
set_option maxHeartbeats 4000000 in
set_option maxRecDepth 100000 in
theorem place_calls (v n : Int) (w : World) (h0 : 0 < n) (h1 : n ≤ 1152921504606846976) :
    Calls Try.prog 15 #[.int .i64 v, .int .i64 n] w fun e w' => e = .returned (.int .i64 (v % n)) ∧ ∃ nd, w' = w.drewN nd := by
  have e0 := Int.emod_nonneg v (show n ≠ 0 by omega)
  have e1 := Int.emod_lt_of_pos v h0
  have ht := tmod_or v n h0
  have c0 : (n == 0) = false := beq_eq_false_iff_ne.mpr (by omega)
  have c1 : (n != 0) = true := bne_iff_ne.mpr (by omega)
  have c2 : ¬ n = 0 := by omega
  by_cases h : v.tmod n < 0
  · have c4 : decide (v.tmod n < 0) = true := decide_eq_true h
    have hw : wrap64 (v.tmod n + n) = v % n := by unfold wrap64; omega
    have HW := Aside0.mk hw
    clear e0 e1 ht h hw h0 h1
    go_enter Try.func15, Try.ntmps15
    go_wp2
    go_ret
    exact ⟨(by show Ending.returned (.int .i64 (wrap64 (v.tmod n + n))) = _; rw [HW.out]), 0, rfl⟩
  · have c4 : decide (v.tmod n < 0) = false := decide_eq_false h
    have hw : v.tmod n = v % n := by omega
    have HW := Aside0.mk hw
    clear e0 e1 ht h hw h0 h1
    go_enter Try.func15, Try.ntmps15
    go_wp2
    go_ret
    exact ⟨(by show Ending.returned (.int .i64 (v.tmod n)) = _; rw [HW.out]), 0, rfl⟩
end Go.Proofs.YthdmacdeefohkaaPl
