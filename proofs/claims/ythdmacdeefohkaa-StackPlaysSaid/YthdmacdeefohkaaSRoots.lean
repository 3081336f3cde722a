/- The contract of Roots of a stack. -/
import Derived.Test.YthdmacdeefohkaaSWords
namespace Go.Proofs.YthdmacdeefohkaaSRoots
open Go.RowKit Go.Proofs.YthdmacdeefohkaaW.PrintWords Go.Proofs.YthdmacdeefohkaaW.PrintLast Go.Proofs.YthdmacdeefohkaaW.PrintMore Go.Proofs.YthdmacdeefohkaaMem Go.Proofs.YthdmacdeefohkaaRow Go.Proofs.YthdmacdeefohkaaBits Go.Proofs.YthdmacdeefohkaaStk Go.Proofs.YthdmacdeefohkaaSWords Go.Proofs
set_option linter.unusedVariables false
set_option linter.unusedSimpArgs false
/-- All frames' slots. -/
def allY (fs : List Fr) : List Int := fs.flatMap Fr.y
theorem allY_append (fs gs : List Fr) : allY (fs ++ gs) = allY fs ++ allY gs := by simp [allY]
theorem allY_length (fs : List Fr) : (allY fs).length = ysum fs := by simp [allY, ysum, List.length_flatMap]
theorem allY_take_succ (fs : List Fr) (i : Nat) (h : i < fs.length) : allY (fs.take (i + 1)) = allY (fs.take i) ++ (fs[i]).y := by
  rw [List.take_succ_eq_append_getElem h, allY_append]; simp [allY]
theorem FrOk.reads {B : Nat} {w : World} {f : Fr} (h : FrOk B w f) : ReadsInt w .u64 (some ⟨f.b, f.o, none⟩) f.y.length f.y := by
  obtain ⟨_, ⟨cur, h2, h3, h4⟩, h5, h6, _⟩ := h
  refine ⟨rfl, by omega, fun _ => ⟨_, rfl, fun j hj => ?_⟩⟩
  have : f.y.getD j 0 = cur.getD (f.o + j) 0 := by
    rw [← h4]
    simp [List.getD_eq_getElem?_getD, List.getElem?_take, hj]
  rw [this, show (⟨f.b, f.o, none⟩ : Addr).add j = ⟨f.b, f.o + j, none⟩ from by unfold Addr.add; split <;> simp_all]
  exact nums_cell h2 (f.o + j) (by omega)
/-- What a call hands back: a row of its own that holds these numbers. -/
def OwnPost (B : Nat) (w : World) (xs : List Int) (e : Ending) (w' : World) : Prop := ∃ v, e = .returned v ∧ w'.ownsRow B 29 1 v xs.length (nums .u64 xs) ∧ Below w.heap.size w w'
set_option maxHeartbeats 4000000 in
set_option maxRecDepth 100000 in
theorem roots_calls (w : World) (B s : Nat) (v : Value) (fs : List Fr) (h : St B w s v fs) :
    Calls Try.prog 26 #[.pointer (some ⟨s, 0, none⟩)] w (OwnPost w.heap.size w (allY fs)) := by
  have c0 := h.c0
  have hl := h.2.2.2.2.2.1
  have H := Aside0.mk h
  have hy : ∀ i, ysum (fs.take i) ≤ fs.length * 12 := fun i => Nat.le_trans (ysum_le _ 12 fun f hf => by
    obtain ⟨_, _, h5, h6, _⟩ := h.2.2.2.1 f (List.mem_of_mem_take hf)
    omega) (Nat.mul_le_mul_right _ (by simp; omega))
  have HY := Aside0.mk hy
  obtain ⟨A, c, hv, hc⟩ := h.2.2.1.form
  have HV : Aside0 (∀ i, i < fs.length → ∃ g, A = some ⟨g, 0, none⟩) := ⟨fun i hi => by
    obtain ⟨g, c', hv', _⟩ := h.2.2.1.some_ (by omega)
    rw [hv] at hv'; injection hv' with hv' _ _
    exact ⟨g, hv'⟩⟩
  rw [hv] at c0
  have HVV := Aside0.mk hv
  clear h hy hv
  go_enter Try.func26, Try.ntmps26
  go_wp2
  go_loopg [3, 5, 11] (fs.length) (fun k v3 v5 v11 wr => ∃ i : Nat, k = fs.length - i ∧ i ≤ fs.length ∧ v11 = .int .i64 i ∧ Aside0 (wr.ownsRow w.heap.size 29 1 v3 (allY (fs.take i)).length (nums .u64 (allY (fs.take i)))) ∧ Aside0 (Below w.heap.size w wr))
  case atStart => exact ⟨0, by omega, by omega, rfl, ⟨own_nil _ _ _ _⟩, ⟨Below.refl _ _⟩⟩
  case round =>
    obtain ⟨i, rfl, hi, rfl, HO, HB⟩ := hrel
    by_cases hlt : i < fs.length
    · obtain ⟨g, rfl⟩ := HV.out i hlt
      have HS := Aside0.mk (allY_take_succ fs i hlt)
      obtain ⟨c1, c2⟩ := St.frame (H.out.below HB.out) HVV.out i hlt
      have hm := HY.out i
      rw [← allY_length] at hm
      have hf := (H.out.below HB.out).2.2.2.1 _ (List.getElem_mem hlt)
      have hr := FrOk.reads (hf.mods (Mods.of_below (fun _ => False) (bel_alloc wr (.cells #[.int .i64 (fs[i]).back, .slice (some ⟨(fs[i]).b, (fs[i]).o, none⟩) (fs[i]).y.length (fs[i]).c] 118))) (fun h => h))
      have hfl : (fs[i]).y.length ≤ 12 := by obtain ⟨_, _, h5, h6, _⟩ := hf; omega
      clear hf
      have HLL := Aside0.mk (And.intro hm hfl)
      generalize ((fs[i]).b) = fb at c2 hr
      generalize ((fs[i]).o) = fo at c2 hr
      generalize ((fs[i]).c) = fc at c2 hr
      generalize ((fs[i]).back) = fk at c1 hr
      generalize ((fs[i]).y) = fy at c2 HS hfl hr HLL
      have HR := Aside0.mk hr
      clear hr hm hfl
      have b1 : (i : Int) < (fs.length : Int) := by omega
      have HB2 := Aside0.mk (below_then HB.out HB.out.size (below_alloc (Below.refl wr.heap.size wr) (.cells #[.int .i64 fk, .slice (some ⟨fb, fo, none⟩) fy.length fc] 118)))
      have HO2 := Aside0.mk (own_alloc HO.out (.cells #[.int .i64 fk, .slice (some ⟨fb, fo, none⟩) fy.length fc] 118))
      clear HB HO
      go_wp2_with (at_builtin; refine print_append_row (w0 := w) w.heap.size rfl (.tmp 15) (.tmp 17) 33 29 .u64 8 rfl Try.underlying33 info64 (by decide) _ (allY (fs.take i)) fy (some ⟨fb, fo, none⟩) fy.length fc rfl rfl HO2.out HR.out HB2.out HB2.out.size (by have := HLL.out; omega) ?_; intro v1 w1 hown hB hg _; have HO3 := Aside0.mk hown; have HB3 := Aside0.mk hB; clear hown hB hg)
      go_roundg (fs.length - (i + 1))
      case measure => omega
      case rel => exact ⟨i + 1, rfl, by omega, by go_num, by rw [HS.out]; exact HO3, HB3⟩
    · have : i = fs.length := by omega
      subst this
      have b1 : ¬ (fs.length : Int) < (fs.length : Int) := by omega
      go_wp2
      go_ret
      exact ⟨_, by first | rfl | (simp; done), by have := HO.out; rwa [List.take_length] at this, HB.out⟩
end Go.Proofs.YthdmacdeefohkaaSRoots
