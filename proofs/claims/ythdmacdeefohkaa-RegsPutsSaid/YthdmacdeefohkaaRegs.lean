/- What a machine has in hand: slots, sources. -/
import Derived.Test.YthdmacdeefohkaaInt
namespace Go.Proofs.YthdmacdeefohkaaRegs
open Go.RowKit Go.Proofs.YthdmacdeefohkaaW.PrintWords Go.Proofs.YthdmacdeefohkaaW.PrintLast Go.Proofs.YthdmacdeefohkaaW.PrintMore Go.Proofs.YthdmacdeefohkaaMem Go.Proofs.YthdmacdeefohkaaLeaf Go.Proofs.YthdmacdeefohkaaBits Go.Proofs.Ythdmacdeefohkaa.PMa Go.Proofs.YthdmacdeefohkaaMTerm Go.Proofs.YthdmacdeefohkaaMVal Go.Proofs.YthdmacdeefohkaaIntT Go.Proofs
set_option linter.unusedVariables false
set_option linter.unusedSimpArgs false
set_option maxHeartbeats 4000000 in
set_option maxRecDepth 100000 in
theorem slots_calls (w : World) (cs : Array Value) (F : Option Addr) (fl fc : Nat) (fr : Bool) (r : Value) (h0 : cs[96]? = some (.slice F fl fc)) (h1 : cs[97]? = some (.bool fr)) (hfl : fl ≤ 1000000)
    (hr : ((fr = false ∨ fl = 0) ∧ r = .slice none 0 0) ∨ (fr = true ∧ 0 < fl ∧ ∃ f, F = some f ∧ w.cell? ⟨(f.add ((fl - 1) * 2)).block, (f.add ((fl - 1) * 2)).off + 1, none⟩ = some r)) :
    Calls Try.prog 101 #[.agg cs] w fun e w' => e = .returned r ∧ Below w.heap.size w w' := by
  have hu70 := Try.underlying70
  obtain ⟨W1, hW1⟩ : ∃ W1, w.alloc (.cells cs 70) = W1 := ⟨_, rfl⟩
  have hb : Below w.heap.size w W1 := by rw [← hW1]; exact below_alloc (Below.refl _ _) _
  have hg : W1.heap[w.heap.size]? = some (.cells cs 70 (0, 0)) := by rw [← hW1]; exact heap_alloc_new _ _
  have b0 : W1.cell? ⟨w.heap.size, 96, none⟩ = some (.slice F fl fc) := (blk_cell hg 96).trans h0
  have b1 : W1.cell? ⟨w.heap.size, 97, none⟩ = some (.bool fr) := (blk_cell hg 97).trans h1
  have HB := Aside0.mk hb
  obtain ⟨g, hgg⟩ : ∃ g, w.heap.size = g := ⟨_, rfl⟩
  rw [hgg] at b0 b1
  clear hg
  rcases hr with ⟨hz, rfl⟩ | ⟨rfl, hz, f, rfl, hc⟩
  · rcases hz with rfl | rfl
    · go_enter Try.func101, Try.ntmps101
      go_wp2_with fail
      go_ret
      exact ⟨rfl, HB.out⟩
    · cases fr
      all_goals
        go_enter Try.func101, Try.ntmps101
        go_wp2_with fail
        go_ret
        exact ⟨rfl, HB.out⟩
  · have e1 : IntKind.i64.wrap ((fl : Int) - 1) = ((fl - 1 : Nat) : Int) := by rw [IntKind.wrap_i64]; omega
    have e2 : ((fl : Int) == 0) = false := by rw [beq_eq_false_iff_ne]; omega
    have e3 : ¬ (fl : Int) = 0 := by omega
    have c1 := pw_cell_below hb hc
    clear hc
    go_enter Try.func101, Try.ntmps101
    go_wp2_with fail
    go_ret
    exact ⟨rfl, HB.out⟩
/-- What lies at a place of a row of terms: the term's cells; beyond the row the zero term's. -/
def At (w : World) (A : Option Addr) (n : Nat) (N : Int) (x : S45) (A2 : Option Addr) (c2 : Nat) (A5 : Option Addr) (c5 : Nat) : Prop :=
  (∃ (m : Nat) (ad : Addr), N = (m : Int) ∧ m < n ∧ A = some ad ∧ w.cell? (ad.add (m * 6)) = some (.int .i64 x.f0) ∧ w.cell? ⟨(ad.add (m * 6)).block, (ad.add (m * 6)).off + 1, none⟩ = some (.bool x.f1.f0) ∧
    w.cell? ⟨(ad.add (m * 6)).block, (ad.add (m * 6)).off + 2, none⟩ = some (.slice A2 x.f1.f1.length c2) ∧ w.cell? ⟨(ad.add (m * 6)).block, (ad.add (m * 6)).off + 3, none⟩ = some (.string x.f2) ∧
    w.cell? ⟨(ad.add (m * 6)).block, (ad.add (m * 6)).off + 4, none⟩ = some (.int .i64 x.f3) ∧ w.cell? ⟨(ad.add (m * 6)).block, (ad.add (m * 6)).off + 5, none⟩ = some (.slice A5 x.f4.length c5)) ∨
  ((N < 0 ∨ (¬ N < 0 ∧ N ≥ (n : Int))) ∧ x = z45 ∧ A2 = none ∧ c2 = 0 ∧ A5 = none ∧ c5 = 0)
theorem At.below {w W : World} {A : Option Addr} {n : Nat} {N : Int} {x : S45} {A2 : Option Addr} {c2 : Nat} {A5 : Option Addr} {c5 : Nat} (h : At w A n N x A2 c2 A5 c5) (hb : Below w.heap.size w W) : At W A n N x A2 c2 A5 c5 := by
  rcases h with ⟨m, ad, e1, e2, e3, e4, e5, e6, e7, e8, e9⟩ | h
  · exact .inl ⟨m, ad, e1, e2, e3, pw_cell_below hb e4, pw_cell_below hb e5, pw_cell_below hb e6, pw_cell_below hb e7, pw_cell_below hb e8, pw_cell_below hb e9⟩
  · exact .inr h
set_option maxHeartbeats 4000000 in
set_option maxRecDepth 100000 in
theorem in_calls (w : World) (A : Option Addr) (n c ga : Nat) (N : Int) (x : S45) (A2 : Option Addr) (c2 : Nat) (A5 : Option Addr) (c5 : Nat) (hA : At w A n N x A2 c2 A5 c5) (hn : n ≤ 1000000) (hN : w.cell? ⟨ga, 1, none⟩ = some (.int .i64 N)) :
    Calls Try.prog 117 #[.slice A n c, .pointer (some ⟨ga, 0, none⟩)] w fun e w' => e = .returned (.agg (cellsT x A2 c2 A5 c5)) ∧ Below w.heap.size w w' := by
  have hu45 := Try.underlying45
  obtain ⟨W1, hW1⟩ : ∃ W1, w.alloc (.cells #[.int .i64 0, .bool false, .slice none 0 0, .string ⟨#[]⟩, .int .i64 0, .slice none 0 0] 45) = W1 := ⟨_, rfl⟩
  have hb : Below w.heap.size w W1 := by rw [← hW1]; exact below_alloc (Below.refl _ _) _
  have h1 : W1.heap[w.heap.size]? = some (.cells #[.int .i64 0, .bool false, .slice none 0 0, .string ⟨#[]⟩, .int .i64 0, .slice none 0 0] 45 (0, 0)) := by rw [← hW1]; exact heap_alloc_new _ _
  have cN := pw_cell_below hb hN
  obtain ⟨b0, b1, b2, b3, b4, b5⟩ := six_cells h1
  obtain ⟨f0, f1, f2, f3, f4, f5⟩ := six_live h1
  have HB := Aside0.mk hb
  have H1 := Aside0.mk h1
  have HBF := Aside0.mk (fun (u0 u1 u2 u3 u4 u5 : Value) => (show Below w.heap.size w ((((((W1.setCell ⟨w.heap.size, 0, none⟩ u0).setCell ⟨w.heap.size, 1, none⟩ u1).setCell ⟨w.heap.size, 2, none⟩ u2).setCell ⟨w.heap.size, 3, none⟩ u3).setCell ⟨w.heap.size, 4, none⟩ u4).setCell ⟨w.heap.size, 5, none⟩ u5) from below_set (below_set (below_set (below_set (below_set (below_set HB.out (Nat.le_refl _)) (Nat.le_refl _)) (Nat.le_refl _)) (Nat.le_refl _)) (Nat.le_refl _)) (Nat.le_refl _)))
  obtain ⟨g, hg⟩ : ∃ g, w.heap.size = g := ⟨_, rfl⟩
  have HG := Aside0.mk hg
  rw [hg] at b0 b1 b2 b3 b4 b5 f0 f1 f2 f3 f4 f5
  rcases hA with ⟨m, ad, rfl, hm2, rfl, e0, e1, e2, e3, e4, e5⟩ | ⟨hor, rfl, rfl, rfl, rfl, rfl⟩
  · have d0 := pw_cell_below hb e0
    have d1 := pw_cell_below hb e1
    have d2 := pw_cell_below hb e2
    have d3 := pw_cell_below hb e3
    have d4 := pw_cell_below hb e4
    have d5 := pw_cell_below hb e5
    have hm0 : ¬ (m : Int) < 0 := by omega
    have hm1 : ¬ (m : Int) ≥ (n : Int) := by omega
    have hm3 : (m : Int) < (n : Int) := by omega
    clear h1 hb e0 e1 e2 e3 e4 e5 hN
    go_enter Try.func117, Try.ntmps117
    go_wp2_with fail
    refine bodyPost_ret (results_cell_row rfl _ _ g 45 (cellsT x A2 c2 A5 c5) (0, 0) _ rfl (by rw [← HG.out]; exact six_put H1.out) Try.underlying45 rfl (by kernel_rfl)) rfl ?_
    have q := HBF.out (.int .i64 x.f0) (.bool x.f1.f0) (.slice A2 x.f1.f1.length c2) (.string x.f2) (.int .i64 x.f3) (.slice A5 x.f4.length c5)
    rw [HG.out] at q
    exact ⟨rfl, by first | exact q | (rw [HG.out]; exact q)⟩
  · have q := HBF.out (.int .i64 0) (.bool false) (.slice none 0 0) (.string ⟨#[]⟩) (.int .i64 0) (.slice none 0 0)
    rw [HG.out] at q
    have HQ := Aside0.mk q
    clear h1 hb hN q
    rcases hor with hlt | ⟨hm0, hm1⟩
    all_goals
      go_enter Try.func117, Try.ntmps117
      go_wp2_with fail
      refine bodyPost_ret (results_cell_row rfl _ _ g 45 (cellsT z45 none 0 none 0) (0, 0) _ rfl (by rw [← HG.out]; exact six_put H1.out) Try.underlying45 rfl (by kernel_rfl)) rfl ?_
      exact ⟨rfl, by first | exact HQ.out | (rw [HG.out]; exact HQ.out)⟩
end Go.Proofs.YthdmacdeefohkaaRegs
