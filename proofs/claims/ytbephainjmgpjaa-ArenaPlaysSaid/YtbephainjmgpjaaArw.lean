/- The contracts of slices.Clone at words and of an arena's Words. -/
import Derived.Test.YtbephainjmgpjaaAr
import Derived.WalkSpells
import Derived.StillTailTactics
import Derived.Deep.RegionHeld3
namespace Go.Proofs.YtbephainjmgpjaaAr
open Go.RowKit Go.Proofs.YtbephainjmgpjaaW.PrintWords Go.Proofs.YtbephainjmgpjaaW.PrintLast Go.Proofs.YtbephainjmgpjaaW.PrintMore Go.Proofs.YtbephainjmgpjaaMem Go.Proofs.YtbephainjmgpjaaBits Go.Proofs
attribute [local go_sem] max2_int min2_int max_two min_two max_three min_three max_four min_four
set_option linter.unusedVariables false
set_option linter.unusedSimpArgs false
/-- What a call hands back: a row of its own that holds these numbers. -/
def OwnPost (B : Nat) (w : World) (xs : List Int) (e : Ending) (w' : World) : Prop := ∃ v, e = .returned v ∧ w'.ownsRow B 23 1 v xs.length (nums .u64 xs) ∧ Below w.heap.size w w'
set_option maxHeartbeats 4000000 in
set_option maxRecDepth 100000 in
theorem clone_calls (w : World) (a : Addr) (k c : Nat) (xs : List Int) (h : ReadsInt w .u64 (some a) k xs) (hk : k ≤ 32768) :
    Calls Try.prog 53 #[.slice (some a) k c] w (OwnPost w.heap.size w xs) := by
  have HR := Aside0.mk h
  have hq := fun (W : World) => Lib.run_eql_slice_nil (P := Try.prog) W 39 23 (some a) k c 0 0 Try.underlying39
  clear h
  go_enter Try.func53, Try.ntmps53
  have HE := Aside0.mk (own_lit w w.heap.size 23 .u64 [] (Nat.le_refl _) (by simp))
  have HR1 := Aside0.mk (HR.out.below (below_alloc (Below.refl _ w) (.cells #[] 23)))
  have HB1 := Aside0.mk (below_alloc (Below.refl w.heap.size w) (.cells #[] 23))
  have hl : xs.length = k := HR.out.1
  have HL := Aside0.mk hl
  clear hl
  go_wp2_with (at_builtin; refine print_append_row (w0 := w) w.heap.size rfl (.tmp 5) (.tmp 6) 39 23 .u64 8 rfl Try.underlying39 info64 (by decide) (.slice (some ⟨w.heap.size, 0, none⟩) 0 0) [] xs (some a) k c rfl rfl HE.out HR1.out HB1.out (by simp) (by simp; omega) ?_; intro v1 w1 hown hB hg _; have HO := Aside0.mk hown; have HB2 := Aside0.mk hB; clear hown hB hg)
  go_ret
  exact ⟨v1, rfl, by simpa using HO.out, HB2.out⟩
set_option maxHeartbeats 4000000 in
set_option maxRecDepth 100000 in
theorem words_calls (w : World) (g gw n : Nat) (l : List Int) (h : Ar w g gw l n) :
    Calls Try.prog 24 #[.pointer (some ⟨g, 0, none⟩)] w (OwnPost w.heap.size w l) := by
  have c0 := h.c0
  have c1 := h.c1
  have hl := h.2.2.1
  have hn := h.2.2.2.1
  have H := Aside0.mk h
  have HR := Aside0.mk (reads_blk h.2.1 l.length (by simp) (by omega))
  clear h
  go_enter Try.func24, Try.ntmps24
  go_wp2
  go_still_tail 13, (by kernel_rfl)
  change wpList _ _ _ _ _ w.drew
  have HC := Aside0.mk (clone_calls w.drew ⟨gw, 0, none⟩ l.length l.length l (show ReadsInt w .u64 _ l.length l by have := HR.out; simpa using this) (by omega))
  clear HR
  go_wp2_with (go_at_call 53; (with_reducible refine HC.out.mono ?_); rintro e w' ⟨v, rfl, ho, hb⟩; have HO := Aside0.mk ho; have HB := Aside0.mk hb; clear ho hb)
  go_ret
  exact ⟨v, rfl, HO.out, (below_drew (Below.refl _ w)).trans HB.out⟩
end Go.Proofs.YtbephainjmgpjaaAr
