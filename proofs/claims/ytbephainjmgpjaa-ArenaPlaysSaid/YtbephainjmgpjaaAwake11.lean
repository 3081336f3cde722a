/- The contract of relictlaw11's awake: it answers true. -/
import Derived.Test.YtbephainjmgpjaaArw
namespace Go.Proofs.YtbephainjmgpjaaAr
open Go.RowKit Go.Proofs.YtbephainjmgpjaaW.PrintWords Go.Proofs.YtbephainjmgpjaaW.PrintLast Go.Proofs.YtbephainjmgpjaaW.PrintMore Go.Proofs.YtbephainjmgpjaaMem Go.Proofs.YtbephainjmgpjaaBits Go.Proofs
attribute [local go_sem] max2_int min2_int max_two min_two max_three min_three max_four min_four
set_option linter.unusedVariables false
set_option linter.unusedSimpArgs false
set_option maxHeartbeats 4000000 in
set_option maxRecDepth 100000 in
theorem awake_calls (w : World) : Calls Try.prog 27 #[] w fun e w' => e = .returned (.bool true) ∧ Below w.heap.size w w' := by
  go_enter Try.func27, Try.ntmps27
  go_wp2_with fail
  refine (new_calls 2 _).mono ?_
  rintro e w1 ⟨rfl, ha, hb⟩
  have hg : w.heap.size ≤ w.heap.size + 1 := by omega
  have hgw : w.heap.size ≤ w.heap.size := Nat.le_refl _
  rw [show sizeA 2 = 2 from by decide] at ha
  generalize w.heap.size + 1 = g at ha hg ⊢
  obtain ⟨gw, hgw2⟩ : ∃ gw, w.heap.size = gw := ⟨_, rfl⟩
  have HW := Aside0.mk (show w.heap.size ≤ gw by omega)
  rw [hgw2] at ha
  clear hgw hgw2
  have HB := Aside0.mk hb
  have HG := Aside0.mk hg
  have C2 := alloc_calls w1 g gw 2 [] 2 ha
  rw [show okA [] 2 2 = true from by decide, show resA [] 2 2 = [0, 0] from by decide, show atA [] 2 2 = 0 from by decide] at C2
  have HC := Aside0.mk C2
  clear hb hg ha C2
  go_wp2_with fail
  refine HC.out.mono ?_
  rintro e w2 ⟨rfl, ha, hm⟩
  have HB2 := Aside0.mk (below_mods HB.out hm HB.out.size (fun i hi => by rw [hi]; exact HG.out))
  have C2 := alloc_calls w2 g gw 2 [0, 0] 1 ha
  rw [show okA [0, 0] 2 1 = false from by decide, show resA [0, 0] 2 1 = [0, 0] from by decide, show atA [0, 0] 2 1 = 0 from by decide] at C2
  clear HC HB ha hm
  have HC := Aside0.mk C2
  clear C2
  go_wp2_with fail
  refine HC.out.mono ?_
  rintro e w3 ⟨rfl, ha, hm⟩
  have HB3 := Aside0.mk (below_mods HB2.out hm HB2.out.size (fun i hi => by rw [hi]; exact HG.out))
  have HA := Aside0.mk ha
  clear HC HB2 ha hm
  go_wp2_with fail
  refine (used_calls _ g gw 2 [0, 0] HA.out).mono ?_
  rintro e wx ⟨rfl, n1, rfl⟩
  go_wp2_with fail
  refine (size_calls _ g gw 2 [0, 0] (Ar.drewN HA.out _)).mono ?_
  rintro e wx ⟨rfl, n2, rfl⟩
  go_wp2_with fail
  go_ret
  exact ⟨by first | rfl | (simp; done), by repeat (first | exact HB3.out | apply pw_below_drewN | apply below_drew)⟩
end Go.Proofs.YtbephainjmgpjaaAr
