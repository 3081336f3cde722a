/- The contract of Words of a stack. -/
import Derived.Test.YthdmacdeefohkaaStk
namespace Go.Proofs.YthdmacdeefohkaaSWords
open Go.RowKit Go.Proofs.YthdmacdeefohkaaW.PrintWords Go.Proofs.YthdmacdeefohkaaW.PrintLast Go.Proofs.YthdmacdeefohkaaW.PrintMore Go.Proofs.YthdmacdeefohkaaMem Go.Proofs.YthdmacdeefohkaaRow Go.Proofs.YthdmacdeefohkaaBits Go.Proofs.YthdmacdeefohkaaStk Go.Proofs
set_option linter.unusedVariables false
set_option linter.unusedSimpArgs false
/-- How many slots all frames have. -/
def ysum (fs : List Fr) : Nat := (fs.map fun f => f.y.length).sum
theorem ysum_append (fs gs : List Fr) : ysum (fs ++ gs) = ysum fs + ysum gs := by simp [ysum]
theorem ysum_take_succ (fs : List Fr) (i : Nat) (h : i < fs.length) : ysum (fs.take (i + 1)) = ysum (fs.take i) + (fs[i]).y.length := by
  rw [List.take_succ_eq_append_getElem h, ysum_append]; simp [ysum]
theorem ysum_le (fs : List Fr) (m : Nat) (h : ∀ f, f ∈ fs → f.y.length ≤ m) : ysum fs ≤ fs.length * m := by
  induction fs with
  | nil => simp [ysum]
  | cons f fs ih =>
    have h1 := ih fun g hg => h g (by simp [hg])
    have h2 := h f (by simp)
    simp only [ysum, List.map_cons, List.sum_cons, List.length_cons] at h1 ⊢
    rw [Nat.add_mul]; omega
theorem flat_at (fs : List Fr) (i : Nat) (h : i < fs.length) : (flat fs)[i * 2]? = some (.int .i64 (fs[i]).back) ∧ (flat fs)[i * 2 + 1]? = some (.slice (some ⟨(fs[i]).b, (fs[i]).o, none⟩) (fs[i]).y.length (fs[i]).c) := by
  have e : fs = fs.take i ++ ([fs[i]] ++ fs.drop (i + 1)) := by simp
  have l : (fs.take i).length = i := by simp; omega
  have key : flat fs = flat (fs.take i) ++ ((fs[i]).cells ++ flat (fs.drop (i + 1))) := by
    conv => lhs; rw [e]
    rw [flat_append, flat_append]; simp [flat]
  have l2 : (flat (fs.take i)).length = i * 2 := by rw [flat_length, l]
  rw [key]
  constructor
  · rw [List.getElem?_append_right (by omega), l2]; simp [Fr.cells]
  · rw [List.getElem?_append_right (by omega), l2]; simp [Fr.cells]
theorem St.frame {B s : Nat} {w : World} {v : Value} {fs : List Fr} (h : St B w s v fs) {g c : Nat} (hv : v = .slice (some ⟨g, 0, none⟩) fs.length c) (i : Nat) (hi : i < fs.length) :
    w.cell? ⟨g, i * 2, none⟩ = some (.int .i64 (fs[i]).back) ∧ w.cell? ⟨g, i * 2 + 1, none⟩ = some (.slice (some ⟨(fs[i]).b, (fs[i]).o, none⟩) (fs[i]).y.length (fs[i]).c) :=
  ⟨h.2.2.1.cell hv _ _ (flat_at fs i hi).1, h.2.2.1.cell hv _ _ (flat_at fs i hi).2⟩
set_option maxHeartbeats 4000000 in
set_option maxRecDepth 100000 in
theorem words_calls (w : World) (B s : Nat) (v : Value) (fs : List Fr) (h : St B w s v fs) :
    Calls Try.prog 24 #[.pointer (some ⟨s, 0, none⟩)] w fun e w' => e = .returned (.int .i64 ((fs.length + ysum fs : Nat) : Int)) ∧ Below w.heap.size w w' := by
  have c0 := h.c0
  have hl := h.2.2.2.2.2.1
  have H := Aside0.mk h
  have hy : ∀ i, ysum (fs.take i) ≤ fs.length * 12 := fun i => Nat.le_trans (ysum_le _ 12 fun f hf => by
    obtain ⟨_, _, h5, h6, _⟩ := h.2.2.2.1 f (List.mem_of_mem_take hf)
    omega) (Nat.mul_le_mul_right _ (by simp; omega))
  have HY := Aside0.mk hy
  obtain ⟨A, c, hv, hc⟩ := h.2.2.1.form
  have HV : Aside0 (∀ i, i < fs.length → ∃ g, A = some ⟨g, 0, none⟩) := ⟨fun i hi => by
    obtain ⟨g, c', hv', _⟩ := h.2.2.1.some_ (by omega)
    rw [hv] at hv'; injection hv' with hv' _ _
    exact ⟨g, hv'⟩⟩
  rw [hv] at c0
  have HVV := Aside0.mk hv
  clear h hy hv
  go_enter Try.func24, Try.ntmps24
  go_wp2
  go_loopg [3, 5, 16] (fs.length) (fun k v3 v5 v16 wr => ∃ i : Nat, k = fs.length - i ∧ i ≤ fs.length ∧ v16 = .int .i64 i ∧ v3 = .int .i64 ((fs.length + ysum (fs.take i) : Nat) : Int) ∧ Aside0 (Below w.heap.size w wr))
  case atStart => exact ⟨0, by omega, by omega, rfl, by simp [ysum], ⟨Below.refl _ _⟩⟩
  case round =>
    obtain ⟨i, rfl, hi, rfl, rfl, HB⟩ := hrel
    by_cases hlt : i < fs.length
    · obtain ⟨g, rfl⟩ := HV.out i hlt
      have HS := Aside0.mk (ysum_take_succ fs i hlt)
      obtain ⟨c1, c2⟩ := St.frame (H.out.below HB.out) HVV.out i hlt
      generalize ((fs[i]).b) = fb at c2
      generalize ((fs[i]).o) = fo at c2
      generalize ((fs[i]).c) = fc at c2
      generalize ((fs[i]).back) = fk at c1
      generalize hyl : ((fs[i]).y.length) = yl at c2 HS
      have hm := HY.out (i + 1)
      have b1 : (i : Int) < (fs.length : Int) := by omega
      have HB2 := Aside0.mk (below_then HB.out HB.out.size (below_alloc (Below.refl wr.heap.size wr) (.cells #[.int .i64 fk, .slice (some ⟨fb, fo, none⟩) yl fc] 118)))
      clear HB
      go_wp2
      go_roundg (fs.length - (i + 1))
      case measure => omega
      case rel => 
        have hs := HS.out
        have hm2 : ysum (fs.take i) + yl ≤ 48000 := by omega
        exact ⟨i + 1, rfl, by omega, by go_num, by rw [hs]; congr 1; unfold wrap64; omega, HB2⟩
    · have : i = fs.length := by omega
      subst this
      have b1 : ¬ (fs.length : Int) < (fs.length : Int) := by omega
      go_wp2
      go_ret
      exact ⟨by first | rfl | (simp; done), HB.out⟩
end Go.Proofs.YthdmacdeefohkaaSWords
