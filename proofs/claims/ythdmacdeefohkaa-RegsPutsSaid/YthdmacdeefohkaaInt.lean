/- Whole numbers as terms: Of, Int, I1 for every number. -/
import Derived.Test.YthdmacdeefohkaaNumS
import Derived.Test.YthdmacdeefohkaaMValA
namespace Go.Proofs.YthdmacdeefohkaaIntT
open Go.RowKit Go.Proofs.YthdmacdeefohkaaW.PrintWords Go.Proofs.YthdmacdeefohkaaW.PrintLast Go.Proofs.YthdmacdeefohkaaW.PrintMore Go.Proofs.YthdmacdeefohkaaMem Go.Proofs.YthdmacdeefohkaaLeaf Go.Proofs.YthdmacdeefohkaaBits Go.Proofs.Ythdmacdeefohkaa.PMa Go.Proofs.YthdmacdeefohkaaNumS Go.Proofs.YthdmacdeefohkaaMTerm Go.Proofs.YthdmacdeefohkaaMVal Go.Proofs
set_option linter.unusedVariables false
set_option linter.unusedSimpArgs false
/-- A number's limbs, without its sign. -/
def absL (v : Int) : List Int := limbs (if v < 0 then -v else v)
theorem absL_len (v : Int) : (absL v).length ≤ 2 := limbs_len _
/-- A number's term. -/
def intT (v : Int) : S45 := ⟨1, ⟨decide (v < 0), absL v⟩, ⟨#[]⟩, 0, []⟩
theorem of_any (w : World) (v : Int) (h0 : -9223372036854775808 ≤ v) (h1 : v < 9223372036854775808) :
    Calls Try.prog 88 #[.int .i64 v] w fun e w' => ∃ u : Value, e = .returned (.agg #[.bool (decide (v < 0)), u]) ∧ Kd.R (Kd.int .u32) 123 w' w.heap.size (fun _ => True) u (absL v) ∧ Below w.heap.size w w' := by
  unfold absL
  by_cases h : v < 0
  · rw [if_pos h, decide_eq_true h]
    have := of_neg w (-v) (by omega) (by omega)
    rwa [Int.neg_neg] at this
  · rw [if_neg h, decide_eq_false h]
    exact of_own w v (by omega) h1
theorem rof_any (w : World) (v : Int) (h0 : -9223372036854775808 ≤ v) (h1 : v < 9223372036854775808) :
    Calls Try.prog 110 #[.int .i64 v] w fun e w' => ∃ u : Value, e = .returned (.agg #[.bool (decide (v < 0)), u]) ∧ Kd.R (Kd.int .u32) 123 w' w.heap.size (fun _ => True) u (absL v) ∧ Below w.heap.size w w' := by
  unfold absL
  by_cases h : v < 0
  · rw [if_pos h, decide_eq_true h]
    have := rof_neg w (-v) (by omega) (by omega)
    rwa [Int.neg_neg] at this
  · rw [if_neg h, decide_eq_false h]
    exact rof_own w v (by omega) h1
theorem six_put {w : World} {g : Nat} {a b c d e f a' b' c' d' e' f' : Value} {t : TypeId} (h : w.heap[g]? = some (.cells #[a, b, c, d, e, f] t (0, 0))) :
    ((((((w.setCell ⟨g, 0, none⟩ a').setCell ⟨g, 1, none⟩ b').setCell ⟨g, 2, none⟩ c').setCell ⟨g, 3, none⟩ d').setCell ⟨g, 4, none⟩ e').setCell ⟨g, 5, none⟩ f').heap[g]? = some (.cells #[a', b', c', d', e', f'] t (0, 0)) :=
  blk_put (cs := #[a', b', c', d', e', f]) (blk_put (cs := #[a', b', c', d', e, f]) (blk_put (cs := #[a', b', c', d, e, f]) (blk_put (cs := #[a', b', c, d, e, f]) (blk_put (cs := #[a', b, c, d, e, f]) (blk_put (cs := #[a, b, c, d, e, f]) h 0 _ rfl) 1 _ rfl) 2 _ rfl) 3 _ rfl) 4 _ rfl) 5 _ rfl
theorem R_six {d : Kd Int} {w : World} {B g : Nat} {e t : TypeId} {ok : Nat → Prop} {cs : Array Value} {v a b c x y z : Value} {xs : List Int} (h : d.R e w B ok v xs) (hb : w.heap[g]? = some (.cells cs t (0, 0))) (hne : ∀ q, q ∈ e :: d.E → q ≠ t) :
    d.R e ((((((w.setCell ⟨g, 0, none⟩ a).setCell ⟨g, 1, none⟩ b).setCell ⟨g, 2, none⟩ c).setCell ⟨g, 3, none⟩ x).setCell ⟨g, 4, none⟩ y).setCell ⟨g, 5, none⟩ z) B (fun k => ok k ∧ k ≠ g) v xs :=
  Kd.R_far (p := ⟨g, 5, none⟩) (Kd.R_far (p := ⟨g, 4, none⟩) (Kd.R_far (p := ⟨g, 3, none⟩) (Kd.R_far (p := ⟨g, 2, none⟩) (Kd.R_far (p := ⟨g, 1, none⟩) (Kd.R_far (p := ⟨g, 0, none⟩) (Kd.R_types h hb hne) (fun _ hk => hk.2) _) (fun _ hk => hk.2) _) (fun _ hk => hk.2) _) (fun _ hk => hk.2) _) (fun _ hk => hk.2) _) (fun _ hk => hk.2) _
set_option maxHeartbeats 4000000 in
set_option maxRecDepth 100000 in
theorem int_any (w : World) (v : Int) (h0 : -9223372036854775808 ≤ v) (h1 : v < 9223372036854775808) :
    Calls Try.prog 90 #[.int .i64 v] w fun e w' => ∃ u : Value, e = .returned (.agg #[.int .i64 1, .bool (decide (v < 0)), u, .string ⟨#[]⟩, .int .i64 0, .slice none 0 0]) ∧ Kd.R (Kd.int .u32) 123 w' w.heap.size (fun k => k ≠ w.heap.size) u (absL v) ∧ Below w.heap.size w w' := by
  have hu45 := Try.underlying45
  obtain ⟨W1, hW1⟩ : ∃ W1, w.alloc (.cells #[.int .i64 0, .bool false, .slice none 0 0, .string ⟨#[]⟩, .int .i64 0, .slice none 0 0] 45) = W1 := ⟨_, rfl⟩
  have HB := Aside0.mk (show Below w.heap.size w W1 by rw [← hW1]; exact below_alloc (Below.refl _ _) _)
  have H1 := Aside0.mk (show W1.heap[w.heap.size]? = some (.cells #[.int .i64 0, .bool false, .slice none 0 0, .string ⟨#[]⟩, .int .i64 0, .slice none 0 0] 45 (0, 0)) by rw [← hW1]; exact heap_alloc_new _ _)
  have HC := Aside0.mk (rof_any W1 v h0 h1)
  have HSZ := Aside0.mk (show W1.heap.size = w.heap.size + 1 by rw [← hW1]; simp)
  go_enter Try.func90, Try.ntmps90
  go_wp2_with fail
  refine HC.out.mono ?_
  rintro e w2 ⟨u, rfl, hR, hb⟩
  obtain ⟨A, c, rfl⟩ := Kd.R_slice hR
  have HR := Aside0.mk hR
  have h2 := (hb.block _ (blk_lt H1.out)).trans H1.out
  have HB2 := Aside0.mk (below_step HB.out hb)
  obtain ⟨b0, b1, b2, b3, b4, b5⟩ := six_cells h2
  obtain ⟨f0, f1, f2, f3, f4, f5⟩ := six_live h2
  have H2 := Aside0.mk h2
  clear hR hb HC h2 hW1
  go_wp2_with fail
  refine bodyPost_ret (results_cell_row rfl _ _ w.heap.size 45 #[.int .i64 1, .bool (decide (v < 0)), .slice A (absL v).length c, .string ⟨#[]⟩, .int .i64 0, .slice none 0 0] (0, 0) _ rfl (six_put H2.out) Try.underlying45 rfl (by kernel_rfl)) rfl ?_
  refine ⟨_, rfl, Kd.R_mono (Kd.R_lower (R_six HR.out H2.out (by decide)) (by rw [HSZ.out]; omega)) (fun _ hk => hk.2), ?_⟩
  exact below_set (below_set (below_set (below_set (below_set (below_set HB2.out (Nat.le_refl _)) (Nat.le_refl _)) (Nat.le_refl _)) (Nat.le_refl _)) (Nat.le_refl _)) (Nat.le_refl _)
set_option maxHeartbeats 4000000 in
set_option maxRecDepth 100000 in
theorem i1_any (w : World) (v : Int) (h0 : -9223372036854775808 ≤ v) (h1 : v < 9223372036854775808) :
    Calls Try.prog 32 #[.int .i64 v] w fun e w' => ∃ u : Value, e = .returned (.agg #[.int .i64 1, .bool (decide (v < 0)), u, .string ⟨#[]⟩, .int .i64 0, .slice none 0 0]) ∧ Kd.R (Kd.int .u32) 123 w' w.heap.size (fun k => k ≠ w.heap.size) u (absL v) ∧ Below w.heap.size w w' := by
  have hu45 := Try.underlying45
  obtain ⟨W1, hW1⟩ : ∃ W1, w.alloc (.cells #[.int .i64 0, .bool false, .slice none 0 0, .string ⟨#[]⟩, .int .i64 0, .slice none 0 0] 45) = W1 := ⟨_, rfl⟩
  have HB := Aside0.mk (show Below w.heap.size w W1 by rw [← hW1]; exact below_alloc (Below.refl _ _) _)
  have H1 := Aside0.mk (show W1.heap[w.heap.size]? = some (.cells #[.int .i64 0, .bool false, .slice none 0 0, .string ⟨#[]⟩, .int .i64 0, .slice none 0 0] 45 (0, 0)) by rw [← hW1]; exact heap_alloc_new _ _)
  have HC := Aside0.mk (int_any W1 v h0 h1)
  have HSZ := Aside0.mk (show W1.heap.size = w.heap.size + 1 by rw [← hW1]; simp)
  go_enter Try.func32, Try.ntmps32
  go_wp2_with fail
  refine HC.out.mono ?_
  rintro e w2 ⟨u, rfl, hR, hb⟩
  obtain ⟨A, c, rfl⟩ := Kd.R_slice hR
  have HR := Aside0.mk hR
  have h2 := (hb.block _ (blk_lt H1.out)).trans H1.out
  have HB2 := Aside0.mk (below_step HB.out hb)
  obtain ⟨b0, b1, b2, b3, b4, b5⟩ := six_cells h2
  obtain ⟨f0, f1, f2, f3, f4, f5⟩ := six_live h2
  have H2 := Aside0.mk h2
  clear hR hb HC h2 hW1
  go_wp2_with fail
  refine bodyPost_ret (results_cell_row rfl _ _ w.heap.size 45 #[.int .i64 1, .bool (decide (v < 0)), .slice A (absL v).length c, .string ⟨#[]⟩, .int .i64 0, .slice none 0 0] (0, 0) _ rfl (six_put H2.out) Try.underlying45 rfl (by kernel_rfl)) rfl ?_
  refine ⟨_, rfl, Kd.R_mono (Kd.R_lower (R_six HR.out H2.out (by decide)) (by rw [HSZ.out]; omega)) (fun _ hk => hk.2), ?_⟩
  exact below_set (below_set (below_set (below_set (below_set (below_set HB2.out (Nat.le_refl _)) (Nat.le_refl _)) (Nat.le_refl _)) (Nat.le_refl _)) (Nat.le_refl _)) (Nat.le_refl _)
end Go.Proofs.YthdmacdeefohkaaIntT
