/- A term that came in: what lies there, and in what it holds. -/
import Derived.Test.YthdmacdeefohkaaPMa0
import Derived.WalkKit
import Derived.ProofKit
import Derived.OpenShut
import Derived.ShutString
import Derived.ChangeOld
import Derived.ChangeSlices
namespace Go.Proofs.YthdmacdeefohkaaOpenT
open Go.RowKit Go.ChangeShapes Go.WideShapes Go.ChangeAt Go.Proofs.YthdmacdeefohkaaW.PrintWords Go.Proofs.Ythdmacdeefohkaa.PMa
set_option linter.unusedVariables false
set_option linter.unusedSimpArgs false
section
variable {H : Type} {enc : TypeId × Value → H} {P : Program} {w : World} {base : Nat} {spare : Nat → Bool} {held : Bool} {fuel : Nat} {cs : List Value} {x : DataW H × List MemPlace} {t : TypeId}
theorem t_int {k : IntKind} (ht : P.underlying t = some (.int k)) (h : DataW.trod enc P w base spare held fuel t cs = some x) : ∃ n, cs = [.int k n] := by
  cases fuel with
  | zero => simp [DataW.trod] at h
  | succ n =>
    unfold DataW.trod at h
    rw [ht] at h
    split at h <;> simp_all
theorem t_bool (ht : P.underlying t = some .bool) (h : DataW.trod enc P w base spare held fuel t cs = some x) : ∃ b, cs = [.bool b] := by
  cases fuel with
  | zero => simp [DataW.trod] at h
  | succ n =>
    unfold DataW.trod at h
    rw [ht] at h
    split at h <;> simp_all
theorem t_string (ht : P.underlying t = some .string) (h : DataW.trod enc P w base spare held fuel t cs = some x) : ∃ s : ByteArray, cs = [.string s] := by
  cases fuel with
  | zero => simp [DataW.trod] at h
  | succ n =>
    unfold DataW.trod at h
    rw [ht] at h
    split at h <;> simp_all
end
/-- A row of limbs. -/
theorem open_limbs {H : Type} {enc : TypeId × Value → H} {w : World} {spare : Nat → Bool} {held : Bool} {fuel : Nat} {cs : List Value} {x : DataW H × List MemPlace} (h : DataW.trod enc Try.prog w 0 spare held fuel 40 cs = some x) :
    ∃ A c l, cs = [.slice A (List.length l) c] ∧ l.length ≤ c ∧ Kd.C (Kd.int .u32) w A l.length l := by
  rcases open_ints Try.underlying40 Try.underlying123 (by kernel_rfl) h with ⟨rfl, _⟩ | ⟨a, l, c, zs, rfl, _, hl, hm, hz, _, hcell, _⟩
  · exact ⟨none, 0, [], rfl, by simp, Kd.C_nil _ _⟩
  · have hle : l ≤ zs.length := by rw [hz]; split <;> omega
    have e : (zs.take l).length = l := by rw [List.length_take]; omega
    refine ⟨some a, c, zs.take l, by rw [e], by omega, Kd.C_of_reads (enc := Value.int .u32) (d := (0 : Int)) ?_⟩
    rw [e]
    refine ⟨e, by unfold maxLen at hm; omega, fun _ => ⟨a, rfl, fun j hj => ?_⟩⟩
    rw [hcell j (by omega)]
    simp [List.getD_eq_getElem?_getD, hj]
theorem list_six {cs : List Value} (h : cs.length = 6) : ∃ a b c d e f, cs = [a, b, c, d, e, f] := by
  match cs, h with
  | [a, b, c, d, e, f], _ => exact ⟨a, b, c, d, e, f, rfl⟩
theorem list_choose {α : Type} {P : Nat → α → Prop} : ∀ n, (∀ i, i < n → ∃ x, P i x) → ∃ l : List α, l.length = n ∧ ∀ i x, l[i]? = some x → P i x := by
  intro n
  induction n with
  | zero => intro _; exact ⟨[], rfl, fun i x h => by simp at h⟩
  | succ n ih =>
    intro h
    obtain ⟨l, h1, h2⟩ := ih (fun i hi => h i (by omega))
    obtain ⟨x, hx⟩ := h n (by omega)
    refine ⟨l ++ [x], by simp [h1], fun i y hy => ?_⟩
    by_cases hi : i < n
    · rw [List.getElem?_append_left (by omega)] at hy
      exact h2 i y hy
    · rw [List.getElem?_append_right (by omega), h1] at hy
      have : i = n := by
        have := (List.getElem?_eq_some_iff.1 hy).1
        simp at this; omega
      subst this
      simp at hy
      subst hy
      exact hx
theorem add_add (a : Addr) (i j : Nat) : (a.add i).add j = a.add (i + j) := by
  cases a with
  | mk b o p =>
    by_cases hi : i = 0 <;> by_cases hj : j = 0 <;> simp [Addr.add, hi, hj, Nat.add_assoc]
theorem cells_at {w : World} {a : Addr} {n : Nat} {cs : List Value} (h : w.cells? 0 a n = some cs) : ∀ j u, cs[j]? = some u → w.cell? (a.add j) = some u := by
  intro j u hu
  unfold World.cells? at h
  rw [if_pos (Nat.zero_le _)] at h
  have hl := mapM_some_length h
  have hj : j < n := by have := (List.getElem?_eq_some_iff.1 hu).1; simp at hl; omega
  have := mapM_some_get h j j (by simp [hj])
  rw [this, hu]
set_option maxRecDepth 100000 in
/-- A term. -/
theorem open_term {H : Type} {enc : TypeId × Value → H} {w : World} {spare : Nat → Bool} {held : Bool} : ∀ (m fuel : Nat), fuel ≤ m → ∀ (cs : List Value) (y : DataW H × List MemPlace), DataW.trod enc Try.prog w 0 spare held fuel 45 cs = some y → ∃ x : S45, k45.K w x cs := by
  intro m
  induction m with
  | zero =>
    intro fuel hf cs y h
    obtain rfl : fuel = 0 := by omega
    simp [DataW.trod] at h
  | succ m ih =>
    intro fuel hf cs y h
    obtain ⟨xs, n, rfl, _, hl, hlen, hfs⟩ := DataW.trod_struct Try.underlying45 h
    have hl6 : cs.length = 6 := by rw [hl]; kernel_rfl
    obtain ⟨a, b, c, d, e, f, rfl⟩ := list_six hl6
    have hx : ∀ i, i < 5 → ∃ z, xs[i]? = some z := fun i hi => ⟨_, List.getElem?_eq_getElem (by rw [hlen]; exact hi)⟩
    obtain ⟨z0, h0⟩ := hx 0 (by omega)
    obtain ⟨z1, h1⟩ := hx 1 (by omega)
    obtain ⟨z2, h2⟩ := hx 2 (by omega)
    obtain ⟨z3, h3⟩ := hx 3 (by omega)
    obtain ⟨z4, h4⟩ := hx 4 (by omega)
    have ci : Try.prog.cellsOf 3 = 1 := by kernel_rfl
    have cb : Try.prog.cellsOf 4 = 1 := by kernel_rfl
    have cs' : Try.prog.cellsOf 9 = 1 := by kernel_rfl
    have cn : Try.prog.cellsOf 42 = 2 := by kernel_rfl
    have cu : Try.prog.cellsOf 40 = 1 := by kernel_rfl
    have ck : Try.prog.cellsOf 43 = 1 := by kernel_rfl
    have c6 : Try.prog.cellsOf 45 = 6 := by kernel_rfl
    have f0 : DataW.trod enc Try.prog w 0 spare held n 3 [a] = some z0 := by
      have q : DataW.trod enc Try.prog w 0 spare held n 3 (([a, b, c, d, e, f].drop 0).take (Try.prog.cellsOf 3)) = xs[0]? := hfs 0 _ rfl
      rw [ci, h0] at q; exact q
    have f1 : DataW.trod enc Try.prog w 0 spare held n 42 [b, c] = some z1 := by
      have q : DataW.trod enc Try.prog w 0 spare held n 42 (([a, b, c, d, e, f].drop 1).take (Try.prog.cellsOf 42)) = xs[1]? := hfs 1 _ rfl
      rw [cn, h1] at q; exact q
    have f2 : DataW.trod enc Try.prog w 0 spare held n 9 [d] = some z2 := by
      have q : DataW.trod enc Try.prog w 0 spare held n 9 (([a, b, c, d, e, f].drop 3).take (Try.prog.cellsOf 9)) = xs[2]? := hfs 2 _ rfl
      rw [cs', h2] at q; exact q
    have f3 : DataW.trod enc Try.prog w 0 spare held n 3 [e] = some z3 := by
      have q : DataW.trod enc Try.prog w 0 spare held n 3 (([a, b, c, d, e, f].drop 4).take (Try.prog.cellsOf 3)) = xs[3]? := hfs 3 _ rfl
      rw [ci, h3] at q; exact q
    have f4 : DataW.trod enc Try.prog w 0 spare held n 43 [f] = some z4 := by
      have q : DataW.trod enc Try.prog w 0 spare held n 43 (([a, b, c, d, e, f].drop 5).take (Try.prog.cellsOf 43)) = xs[4]? := hfs 4 _ rfl
      rw [ck, h4] at q; exact q
    obtain ⟨kind, e0⟩ := t_int Try.underlying3 f0
    obtain ⟨str, e2⟩ := t_string Try.underlying9 f2
    obtain ⟨num, e3⟩ := t_int Try.underlying3 f3
    injection e0 with e0; injection e2 with e2; injection e3 with e3
    subst e0; subst e2; subst e3
    obtain ⟨y0, y1, n1, _, _, g0, g1⟩ := trod_struct2 Try.underlying42 f1
    have g0 : DataW.trod enc Try.prog w 0 spare held n1 4 [b] = some y0 := by
      have q : DataW.trod enc Try.prog w 0 spare held n1 4 (([b, c].drop 0).take (Try.prog.cellsOf 4)) = some y0 := g0
      rw [cb] at q; exact q
    have g1 : DataW.trod enc Try.prog w 0 spare held n1 40 [c] = some y1 := by
      have q : DataW.trod enc Try.prog w 0 spare held n1 40 (([b, c].drop 1).take (Try.prog.cellsOf 40)) = some y1 := g1
      rw [cu] at q; exact q
    obtain ⟨neg, e1⟩ := t_bool Try.underlying4 g0
    injection e1 with e1; subst e1
    obtain ⟨A, cc, l, e1, hlc, hC⟩ := open_limbs g1
    injection e1 with e1; subst e1
    have hk : ∃ A5 c5 l5, f = .slice A5 (List.length l5) c5 ∧ l5.length ≤ c5 ∧ k45.C w A5 l5.length l5 := by
      rcases DataW.trod_slice Try.underlying43 f4 with ⟨e1, _⟩ | ⟨a', len, cap, elems, rest, n', hn', e1, _, _, hlc', hm, hel, hge, _⟩
      · injection e1 with e1
        exact ⟨none, 0, [], e1, by simp, Kd.C_nil _ _⟩
      · injection e1 with e1
        have each : ∀ i, i < len → ∃ (x : S45) (cs' : List Value), k45.K w x cs' ∧ cs'.length = 6 ∧ ∀ j u, cs'[j]? = some u → w.cell? (a'.add (i * 6 + j)) = some u := by
          intro i hi
          have q := hge i hi
          rw [c6, List.getElem?_eq_getElem (by omega), Option.bind_eq_some_iff] at q
          obtain ⟨cs', q1, q2⟩ := q
          obtain ⟨x, hx⟩ := ih n' (by omega) cs' _ q2
          refine ⟨x, cs', hx, k45.K_len hx, ?_⟩
          intro j u hu
          rw [← add_add]
          exact cells_at q1 j u hu
        obtain ⟨l5, hl5, hP⟩ := list_choose len each
        refine ⟨some a', cap, l5, by rw [hl5]; exact e1, by omega, ?_⟩
        refine ⟨rfl, by unfold maxLen at hm; omega, fun _ => ⟨a', rfl, fun j p hp => ?_⟩⟩
        obtain ⟨cs', q1, q2, q3⟩ := hP j p hp
        exact ⟨cs', q2, q1, q3⟩
    obtain ⟨A5, c5, l5, rfl, hl5, hC5⟩ := hk
    exact ⟨⟨kind, ⟨neg, l⟩, str, num, l5⟩, k45_mk w ⟨kind, ⟨neg, l⟩, str, num, l5⟩ hlc hC hl5 hC5⟩
end Go.Proofs.YthdmacdeefohkaaOpenT
