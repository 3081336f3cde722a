/- Terms, registers and operands that came in: what lies there. -/
import Derived.Test.YthdmacdeefohkaaPMa0
import Derived.WalkKit
import Derived.ProofKit
import Derived.OpenShut
import Derived.ShutString
import Derived.ChangeOld
import Derived.ChangeSlices
import Derived.Test.YthdmacdeefohkaaTcM
import Derived.Deep.Strs
namespace Go.Proofs.YthdmacdeefohkaaOpenT
open Go.RowKit Go.ChangeShapes Go.WideShapes Go.ChangeAt Go.Proofs.YthdmacdeefohkaaW.PrintWords Go.Proofs.Ythdmacdeefohkaa.PMa
set_option linter.unusedVariables false
set_option linter.unusedSimpArgs false
section
variable {H : Type} {enc : TypeId × Value → H} {P : Program} {w : World} {base : Nat} {spare : Nat → Bool} {held : Bool} {fuel : Nat} {cs : List Value} {x : DataW H × List MemPlace} {t : TypeId}
theorem t_int {k : IntKind} (ht : P.underlying t = some (.int k)) (h : DataW.trod enc P w base spare held fuel t cs = some x) : ∃ n, cs = [.int k n] := by
  cases fuel with
  | zero => simp [DataW.trod] at h
  | succ n =>
    unfold DataW.trod at h
    rw [ht] at h
    split at h <;> simp_all
theorem t_bool (ht : P.underlying t = some .bool) (h : DataW.trod enc P w base spare held fuel t cs = some x) : ∃ b, cs = [.bool b] := by
  cases fuel with
  | zero => simp [DataW.trod] at h
  | succ n =>
    unfold DataW.trod at h
    rw [ht] at h
    split at h <;> simp_all
theorem t_string (ht : P.underlying t = some .string) (h : DataW.trod enc P w base spare held fuel t cs = some x) : ∃ s : ByteArray, cs = [.string s] := by
  cases fuel with
  | zero => simp [DataW.trod] at h
  | succ n =>
    unfold DataW.trod at h
    rw [ht] at h
    split at h <;> simp_all
end
/-- A row of limbs. -/
theorem open_limbs {H : Type} {enc : TypeId × Value → H} {w : World} {spare : Nat → Bool} {held : Bool} {fuel : Nat} {cs : List Value} {x : DataW H × List MemPlace} (h : DataW.trod enc Try.prog w 0 spare held fuel 40 cs = some x) :
    ∃ A c l, cs = [.slice A (List.length l) c] ∧ l.length ≤ c ∧ Kd.C (Kd.int .u32) w A l.length l := by
  rcases open_ints Try.underlying40 Try.underlying123 (by kernel_rfl) h with ⟨rfl, _⟩ | ⟨a, l, c, zs, rfl, _, hl, hm, hz, _, hcell, _⟩
  · exact ⟨none, 0, [], rfl, by simp, Kd.C_nil _ _⟩
  · have hle : l ≤ zs.length := by rw [hz]; split <;> omega
    have e : (zs.take l).length = l := by rw [List.length_take]; omega
    refine ⟨some a, c, zs.take l, by rw [e], by omega, Kd.C_of_reads (enc := Value.int .u32) (d := (0 : Int)) ?_⟩
    rw [e]
    refine ⟨e, by unfold maxLen at hm; omega, fun _ => ⟨a, rfl, fun j hj => ?_⟩⟩
    rw [hcell j (by omega)]
    simp [List.getD_eq_getElem?_getD, hj]
theorem list_six {cs : List Value} (h : cs.length = 6) : ∃ a b c d e f, cs = [a, b, c, d, e, f] := by
  match cs, h with
  | [a, b, c, d, e, f], _ => exact ⟨a, b, c, d, e, f, rfl⟩
theorem list_choose {α : Type} {P : Nat → α → Prop} : ∀ n, (∀ i, i < n → ∃ x, P i x) → ∃ l : List α, l.length = n ∧ ∀ i x, l[i]? = some x → P i x := by
  intro n
  induction n with
  | zero => intro _; exact ⟨[], rfl, fun i x h => by simp at h⟩
  | succ n ih =>
    intro h
    obtain ⟨l, h1, h2⟩ := ih (fun i hi => h i (by omega))
    obtain ⟨x, hx⟩ := h n (by omega)
    refine ⟨l ++ [x], by simp [h1], fun i y hy => ?_⟩
    by_cases hi : i < n
    · rw [List.getElem?_append_left (by omega)] at hy
      exact h2 i y hy
    · rw [List.getElem?_append_right (by omega), h1] at hy
      have : i = n := by
        have := (List.getElem?_eq_some_iff.1 hy).1
        simp at this; omega
      subst this
      simp at hy
      subst hy
      exact hx
theorem add_add (a : Addr) (i j : Nat) : (a.add i).add j = a.add (i + j) := by
  cases a with
  | mk b o p =>
    by_cases hi : i = 0 <;> by_cases hj : j = 0 <;> simp [Addr.add, hi, hj, Nat.add_assoc]
theorem cells_at {w : World} {a : Addr} {n : Nat} {cs : List Value} (h : w.cells? 0 a n = some cs) : ∀ j u, cs[j]? = some u → w.cell? (a.add j) = some u := by
  intro j u hu
  unfold World.cells? at h
  rw [if_pos (Nat.zero_le _)] at h
  have hl := mapM_some_length h
  have hj : j < n := by have := (List.getElem?_eq_some_iff.1 hu).1; simp at hl; omega
  have := mapM_some_get h j j (by simp [hj])
  rw [this, hu]
set_option maxRecDepth 100000 in
/-- A term. -/
theorem open_term {H : Type} {enc : TypeId × Value → H} {w : World} {spare : Nat → Bool} {held : Bool} : ∀ (m fuel : Nat), fuel ≤ m → ∀ (cs : List Value) (y : DataW H × List MemPlace), DataW.trod enc Try.prog w 0 spare held fuel 45 cs = some y → ∃ x : S45, k45.K w x cs := by
  intro m
  induction m with
  | zero =>
    intro fuel hf cs y h
    obtain rfl : fuel = 0 := by omega
    simp [DataW.trod] at h
  | succ m ih =>
    intro fuel hf cs y h
    obtain ⟨xs, n, rfl, _, hl, hlen, hfs⟩ := DataW.trod_struct Try.underlying45 h
    have hl6 : cs.length = 6 := by rw [hl]; kernel_rfl
    obtain ⟨a, b, c, d, e, f, rfl⟩ := list_six hl6
    have hx : ∀ i, i < 5 → ∃ z, xs[i]? = some z := fun i hi => ⟨_, List.getElem?_eq_getElem (by rw [hlen]; exact hi)⟩
    obtain ⟨z0, h0⟩ := hx 0 (by omega)
    obtain ⟨z1, h1⟩ := hx 1 (by omega)
    obtain ⟨z2, h2⟩ := hx 2 (by omega)
    obtain ⟨z3, h3⟩ := hx 3 (by omega)
    obtain ⟨z4, h4⟩ := hx 4 (by omega)
    have ci : Try.prog.cellsOf 3 = 1 := by kernel_rfl
    have cb : Try.prog.cellsOf 4 = 1 := by kernel_rfl
    have cs' : Try.prog.cellsOf 9 = 1 := by kernel_rfl
    have cn : Try.prog.cellsOf 42 = 2 := by kernel_rfl
    have cu : Try.prog.cellsOf 40 = 1 := by kernel_rfl
    have ck : Try.prog.cellsOf 43 = 1 := by kernel_rfl
    have c6 : Try.prog.cellsOf 45 = 6 := by kernel_rfl
    have f0 : DataW.trod enc Try.prog w 0 spare held n 3 [a] = some z0 := by
      have q : DataW.trod enc Try.prog w 0 spare held n 3 (([a, b, c, d, e, f].drop 0).take (Try.prog.cellsOf 3)) = xs[0]? := hfs 0 _ rfl
      rw [ci, h0] at q; exact q
    have f1 : DataW.trod enc Try.prog w 0 spare held n 42 [b, c] = some z1 := by
      have q : DataW.trod enc Try.prog w 0 spare held n 42 (([a, b, c, d, e, f].drop 1).take (Try.prog.cellsOf 42)) = xs[1]? := hfs 1 _ rfl
      rw [cn, h1] at q; exact q
    have f2 : DataW.trod enc Try.prog w 0 spare held n 9 [d] = some z2 := by
      have q : DataW.trod enc Try.prog w 0 spare held n 9 (([a, b, c, d, e, f].drop 3).take (Try.prog.cellsOf 9)) = xs[2]? := hfs 2 _ rfl
      rw [cs', h2] at q; exact q
    have f3 : DataW.trod enc Try.prog w 0 spare held n 3 [e] = some z3 := by
      have q : DataW.trod enc Try.prog w 0 spare held n 3 (([a, b, c, d, e, f].drop 4).take (Try.prog.cellsOf 3)) = xs[3]? := hfs 3 _ rfl
      rw [ci, h3] at q; exact q
    have f4 : DataW.trod enc Try.prog w 0 spare held n 43 [f] = some z4 := by
      have q : DataW.trod enc Try.prog w 0 spare held n 43 (([a, b, c, d, e, f].drop 5).take (Try.prog.cellsOf 43)) = xs[4]? := hfs 4 _ rfl
      rw [ck, h4] at q; exact q
    obtain ⟨kind, e0⟩ := t_int Try.underlying3 f0
    obtain ⟨str, e2⟩ := t_string Try.underlying9 f2
    obtain ⟨num, e3⟩ := t_int Try.underlying3 f3
    injection e0 with e0; injection e2 with e2; injection e3 with e3
    subst e0; subst e2; subst e3
    obtain ⟨y0, y1, n1, _, _, g0, g1⟩ := trod_struct2 Try.underlying42 f1
    have g0 : DataW.trod enc Try.prog w 0 spare held n1 4 [b] = some y0 := by
      have q : DataW.trod enc Try.prog w 0 spare held n1 4 (([b, c].drop 0).take (Try.prog.cellsOf 4)) = some y0 := g0
      rw [cb] at q; exact q
    have g1 : DataW.trod enc Try.prog w 0 spare held n1 40 [c] = some y1 := by
      have q : DataW.trod enc Try.prog w 0 spare held n1 40 (([b, c].drop 1).take (Try.prog.cellsOf 40)) = some y1 := g1
      rw [cu] at q; exact q
    obtain ⟨neg, e1⟩ := t_bool Try.underlying4 g0
    injection e1 with e1; subst e1
    obtain ⟨A, cc, l, e1, hlc, hC⟩ := open_limbs g1
    injection e1 with e1; subst e1
    have hk : ∃ A5 c5 l5, f = .slice A5 (List.length l5) c5 ∧ l5.length ≤ c5 ∧ k45.C w A5 l5.length l5 := by
      rcases DataW.trod_slice Try.underlying43 f4 with ⟨e1, _⟩ | ⟨a', len, cap, elems, rest, n', hn', e1, _, _, hlc', hm, hel, hge, _⟩
      · injection e1 with e1
        exact ⟨none, 0, [], e1, by simp, Kd.C_nil _ _⟩
      · injection e1 with e1
        have each : ∀ i, i < len → ∃ (x : S45) (cs' : List Value), k45.K w x cs' ∧ cs'.length = 6 ∧ ∀ j u, cs'[j]? = some u → w.cell? (a'.add (i * 6 + j)) = some u := by
          intro i hi
          have q := hge i hi
          rw [c6, List.getElem?_eq_getElem (by omega), Option.bind_eq_some_iff] at q
          obtain ⟨cs', q1, q2⟩ := q
          obtain ⟨x, hx⟩ := ih n' (by omega) cs' _ q2
          refine ⟨x, cs', hx, k45.K_len hx, ?_⟩
          intro j u hu
          rw [← add_add]
          exact cells_at q1 j u hu
        obtain ⟨l5, hl5, hP⟩ := list_choose len each
        refine ⟨some a', cap, l5, by rw [hl5]; exact e1, by omega, ?_⟩
        refine ⟨rfl, by unfold maxLen at hm; omega, fun _ => ⟨a', rfl, fun j p hp => ?_⟩⟩
        obtain ⟨cs', q1, q2, q3⟩ := hP j p hp
        exact ⟨cs', q2, q1, q3⟩
    obtain ⟨A5, c5, l5, rfl, hl5, hC5⟩ := hk
    exact ⟨⟨kind, ⟨neg, l⟩, str, num, l5⟩, k45_mk w ⟨kind, ⟨neg, l⟩, str, num, l5⟩ hlc hC hl5 hC5⟩
end Go.Proofs.YthdmacdeefohkaaOpenT
namespace Go.Proofs.YthdmacdeefohkaaOpenR
open Go.RowKit Go.ChangeShapes Go.WideShapes Go.ChangeAt Go.Proofs.YthdmacdeefohkaaW.PrintWords Go.Proofs.Ythdmacdeefohkaa.PMa Go.Proofs.YthdmacdeefohkaaMTerm Go.Proofs.YthdmacdeefohkaaRv Go.Proofs.YthdmacdeefohkaaFa Go.Proofs.YthdmacdeefohkaaOpenT
set_option linter.unusedVariables false
set_option linter.unusedSimpArgs false
/-- A row whose elements are opened one by one. -/
theorem open_row {α : Type} (d : Kd α) {H : Type} {enc : TypeId × Value → H} {w : World} {spare : Nat → Bool} {held : Bool} {fuel : Nat} {ts e : TypeId} (ht : Try.prog.underlying ts = some (.slice e)) (hz : Try.prog.cellsOf e = d.sz)
    (hd : ∀ (n : Nat) (cs : List Value) (y : DataW H × List MemPlace), DataW.trod enc Try.prog w 0 spare held n e cs = some y → ∃ x : α, d.K w x cs ∧ cs.length = d.sz)
    {f : Value} {y : DataW H × List MemPlace} (h : DataW.trod enc Try.prog w 0 spare held fuel ts [f] = some y) : ∃ A c l, f = .slice A (List.length l) c ∧ l.length ≤ c ∧ Kd.C d w A l.length l := by
  rcases DataW.trod_slice ht h with ⟨e1, _⟩ | ⟨a', len, cap, elems, rest, n', hn', e1, _, _, hlc', hm, hel, hge, _⟩
  · injection e1 with e1
    exact ⟨none, 0, [], e1, by simp, Kd.C_nil _ _⟩
  · injection e1 with e1
    have each : ∀ i, i < len → ∃ (x : α) (cs' : List Value), d.K w x cs' ∧ cs'.length = d.sz ∧ ∀ j u, cs'[j]? = some u → w.cell? (a'.add (i * d.sz + j)) = some u := by
      intro i hi
      have q := hge i hi
      rw [hz, List.getElem?_eq_getElem (by omega), Option.bind_eq_some_iff] at q
      obtain ⟨cs', q1, q2⟩ := q
      obtain ⟨x, hx, hl⟩ := hd n' cs' _ q2
      refine ⟨x, cs', hx, hl, ?_⟩
      intro j u hu
      rw [← Go.Proofs.YthdmacdeefohkaaOpenT.add_add]
      exact cells_at q1 j u hu
    obtain ⟨l5, hl5, hP⟩ := list_choose len each
    refine ⟨some a', cap, l5, by rw [hl5]; exact e1, by omega, ?_⟩
    refine ⟨rfl, by unfold maxLen at hm; omega, fun _ => ⟨a', rfl, fun j p hp => ?_⟩⟩
    obtain ⟨cs', q1, q2, q3⟩ := hP j p hp
    exact ⟨cs', q2, q1, q3⟩
theorem list_two {cs : List Value} (h : cs.length = 2) : ∃ a b, cs = [a, b] := by
  match cs, h with
  | [a, b], _ => exact ⟨a, b, rfl⟩
theorem list_three {cs : List Value} (h : cs.length = 3) : ∃ a b c, cs = [a, b, c] := by
  match cs, h with
  | [a, b, c], _ => exact ⟨a, b, c, rfl⟩
section
variable {H : Type} {enc : TypeId × Value → H} {w : World} {spare : Nat → Bool} {held : Bool}
theorem open_terms {fuel : Nat} {f : Value} {y : DataW H × List MemPlace} (h : DataW.trod enc Try.prog w 0 spare held fuel 43 [f] = some y) : ∃ A c l, f = .slice A (List.length l) c ∧ l.length ≤ c ∧ Kd.C k45 w A l.length l :=
  open_row k45 Try.underlying43 (by kernel_rfl) (fun n cs y hy => by
    obtain ⟨x, hx⟩ := open_term n n (Nat.le_refl _) cs y hy
    exact ⟨x, hx, k45.K_len hx⟩) h
theorem open_frame (n : Nat) (cs : List Value) (y : DataW H × List MemPlace) (h : DataW.trod enc Try.prog w 0 spare held n 136 cs = some y) : ∃ x : Frm, kFr.K w x cs ∧ cs.length = kFr.sz := by
  obtain ⟨y0, y1, n1, _, hl, g0, g1⟩ := trod_struct2 Try.underlying136 h
  have hl2 : cs.length = 2 := by rw [hl]; kernel_rfl
  obtain ⟨a, b, rfl⟩ := list_two hl2
  have ci : Try.prog.cellsOf 3 = 1 := by kernel_rfl
  have ck : Try.prog.cellsOf 43 = 1 := by kernel_rfl
  have g0' : DataW.trod enc Try.prog w 0 spare held n1 3 [a] = some y0 := by
    have q : DataW.trod enc Try.prog w 0 spare held n1 3 (([a, b].drop 0).take (Try.prog.cellsOf 3)) = some y0 := g0
    rw [ci] at q; exact q
  have g1' : DataW.trod enc Try.prog w 0 spare held n1 43 [b] = some y1 := by
    have q : DataW.trod enc Try.prog w 0 spare held n1 43 (([a, b].drop 1).take (Try.prog.cellsOf 43)) = some y1 := g1
    rw [ck] at q; exact q
  obtain ⟨k, e0⟩ := t_int Try.underlying3 g0'
  injection e0 with e0
  subst e0
  obtain ⟨A, c, l, rfl, hc, hC⟩ := open_terms g1'
  exact ⟨(k, l), ⟨[.int .i64 k], [.slice A l.length c], rfl, rfl, ⟨A, c, rfl, hc, hC⟩⟩, rfl⟩
theorem open_frames {fuel : Nat} {f : Value} {y : DataW H × List MemPlace} (h : DataW.trod enc Try.prog w 0 spare held fuel 90 [f] = some y) : ∃ A c l, f = .slice A (List.length l) c ∧ l.length ≤ c ∧ Kd.C kFr w A l.length l :=
  open_row kFr Try.underlying90 (by kernel_rfl) (fun n cs y hy => open_frame n cs y hy) h
set_option maxRecDepth 100000 in
/-- Registers. -/
theorem open_R {fuel : Nat} {cs : List Value} {y : DataW H × List MemPlace} (h : DataW.trod enc Try.prog w 0 spare held fuel 92 cs = some y) : ∃ r : RV, Rd w cs.toArray r := by
  obtain ⟨xs, n, rfl, _, hl, hlen, hfs⟩ := DataW.trod_struct Try.underlying92 h
  have hl101 : cs.length = 101 := by rw [hl]; kernel_rfl
  have hx : ∀ i, i < 6 → ∃ z, xs[i]? = some z := fun i hi => ⟨_, List.getElem?_eq_getElem (by rw [hlen]; exact hi)⟩
  obtain ⟨z0, h0⟩ := hx 0 (by omega)
  obtain ⟨z1, h1⟩ := hx 1 (by omega)
  obtain ⟨z2, h2⟩ := hx 2 (by omega)
  obtain ⟨z3, h3⟩ := hx 3 (by omega)
  obtain ⟨z4, h4⟩ := hx 4 (by omega)
  obtain ⟨z5, h5⟩ := hx 5 (by omega)
  have ci : Try.prog.cellsOf 3 = 1 := by kernel_rfl
  have cb : Try.prog.cellsOf 4 = 1 := by kernel_rfl
  have ca : Try.prog.cellsOf 67 = 96 := by kernel_rfl
  have cf : Try.prog.cellsOf 90 = 1 := by kernel_rfl
  have c6 : Try.prog.cellsOf 45 = 6 := by kernel_rfl
  have one : ∀ i, i < 101 → ∃ u, (cs.drop i).take 1 = [u] ∧ cs[i]? = some u := fun i hi => by
    refine ⟨cs[i]'(by omega), ?_, List.getElem?_eq_getElem (by omega)⟩
    rw [List.drop_eq_getElem_cons (by omega)]
    rfl
  obtain ⟨u96, o96, p96⟩ := one 96 (by omega)
  obtain ⟨u97, o97, p97⟩ := one 97 (by omega)
  obtain ⟨u98, o98, p98⟩ := one 98 (by omega)
  obtain ⟨u99, o99, p99⟩ := one 99 (by omega)
  obtain ⟨u100, o100, p100⟩ := one 100 (by omega)
  have f0 : DataW.trod enc Try.prog w 0 spare held n 67 ((cs.drop 0).take 96) = some z0 := by
    have q : DataW.trod enc Try.prog w 0 spare held n 67 ((cs.drop 0).take (Try.prog.cellsOf 67)) = xs[0]? := hfs 0 _ rfl
    rw [ca, h0] at q; exact q
  have f1 : DataW.trod enc Try.prog w 0 spare held n 90 [u96] = some z1 := by
    have q : DataW.trod enc Try.prog w 0 spare held n 90 ((cs.drop 96).take (Try.prog.cellsOf 90)) = xs[1]? := hfs 1 _ rfl
    rw [cf, h1, o96] at q; exact q
  have f2 : DataW.trod enc Try.prog w 0 spare held n 4 [u97] = some z2 := by
    have q : DataW.trod enc Try.prog w 0 spare held n 4 ((cs.drop 97).take (Try.prog.cellsOf 4)) = xs[2]? := hfs 2 _ rfl
    rw [cb, h2, o97] at q; exact q
  have f3 : DataW.trod enc Try.prog w 0 spare held n 3 [u98] = some z3 := by
    have q : DataW.trod enc Try.prog w 0 spare held n 3 ((cs.drop 98).take (Try.prog.cellsOf 3)) = xs[3]? := hfs 3 _ rfl
    rw [ci, h3, o98] at q; exact q
  have f4 : DataW.trod enc Try.prog w 0 spare held n 3 [u99] = some z4 := by
    have q : DataW.trod enc Try.prog w 0 spare held n 3 ((cs.drop 99).take (Try.prog.cellsOf 3)) = xs[4]? := hfs 4 _ rfl
    rw [ci, h4, o99] at q; exact q
  have f5 : DataW.trod enc Try.prog w 0 spare held n 3 [u100] = some z5 := by
    have q : DataW.trod enc Try.prog w 0 spare held n 3 ((cs.drop 100).take (Try.prog.cellsOf 3)) = xs[5]? := hfs 5 _ rfl
    rw [ci, h5, o100] at q; exact q
  obtain ⟨A, c, fs, e1, hc, hC⟩ := open_frames f1
  obtain ⟨fr, e2⟩ := t_bool Try.underlying4 f2
  obtain ⟨back, e3⟩ := t_int Try.underlying3 f3
  obtain ⟨pc, e4⟩ := t_int Try.underlying3 f4
  obtain ⟨room, e5⟩ := t_int Try.underlying3 f5
  injection e2 with e2; injection e3 with e3; injection e4 with e4; injection e5 with e5
  subst e1; subst e2; subst e3; subst e4; subst e5
  obtain ⟨ys, m, rfl, _, _, hm, hel⟩ := DataW.trod_array Try.underlying67 f0
  have each : ∀ i, i < 16 → ∃ x : S45, k45.K w x ((((cs.drop 0).take 96).drop (i * 6)).take 6) := by
    intro i hi
    have q := hel i hi
    rw [c6, List.getElem?_eq_getElem (by omega)] at q
    exact open_term m m (Nat.le_refl _) _ _ q
  obtain ⟨l, hll, hP⟩ := list_choose 16 each
  refine ⟨⟨l, fs, fr, back, pc, room⟩, by rw [List.size_toArray]; exact hl101, hll, fun i hi => ?_, ⟨A, c, by rw [List.getElem?_toArray]; exact p96, hc, hC⟩, by rw [List.getElem?_toArray]; exact p97, by rw [List.getElem?_toArray]; exact p98, by rw [List.getElem?_toArray]; exact p99, by rw [List.getElem?_toArray]; exact p100⟩
  have hli : l[i]? = some (l[i]'(by omega)) := List.getElem?_eq_getElem (by omega)
  have hK := hP i _ hli
  have e : l.getD i z45 = l[i]'(by omega) := by rw [List.getD_eq_getElem?_getD, hli]; rfl
  show ∃ A2 c2 A5 c5, Lies w (l.getD i z45) A2 c2 A5 c5 ∧ _
  rw [e]
  obtain ⟨A2, c2, A5, c5, ec, g1, g2, g3, g4⟩ := k45_open hK
  refine ⟨A2, c2, A5, c5, ⟨g2, g1, g4, g3⟩, fun j hj => ?_⟩
  rw [List.getElem?_toArray]
  have hcell : ((((cs.drop 0).take 96).drop (i * 6)).take 6)[j]? = cs[i * 6 + j]? := by
    rw [List.getElem?_take, if_pos hj, List.getElem?_drop, List.getElem?_take, if_pos (by omega), List.getElem?_drop, Nat.zero_add]
  rw [← hcell, ec]
  unfold cellsT
  simp
/-- Operands, so deep. -/
theorem open_args : ∀ (d : Nat) {fuel : Nat} {f : Value} {y : DataW H × List MemPlace}, DataW.trod enc Try.prog w 0 spare held fuel 75 [f] = some y → ∃ A c l, f = .slice A l c ∧ AR d w A l := by
  intro d
  induction d with
  | zero =>
    intro fuel f y h
    rcases DataW.trod_slice Try.underlying75 h with ⟨e1, _⟩ | ⟨a', len, cap, elems, rest, n', hn', e1, _⟩
    · injection e1 with e1; exact ⟨none, 0, 0, e1, trivial⟩
    · injection e1 with e1; exact ⟨some a', cap, len, e1, trivial⟩
  | succ d ih =>
    intro fuel f y h
    rcases DataW.trod_slice Try.underlying75 h with ⟨e1, _⟩ | ⟨a', len, cap, elems, rest, n', hn', e1, _, _, hlc', hm, hel, hge, _⟩
    · injection e1 with e1; exact ⟨none, 0, 0, e1, by omega, fun i hi => by omega⟩
    · injection e1 with e1
      refine ⟨some a', cap, len, e1, by unfold maxLen at hm; omega, fun i hi => ?_⟩
      have c3 : Try.prog.cellsOf 77 = 3 := by kernel_rfl
      have q := hge i hi
      rw [c3, List.getElem?_eq_getElem (by omega), Option.bind_eq_some_iff] at q
      obtain ⟨cs', q1, q2⟩ := q
      obtain ⟨y0, y1, y2, n1, _, hl, g0, g1, g2⟩ := Go.Deep.trod_struct3 Try.underlying77 q2
      have hl3 : cs'.length = 3 := by rw [hl]; kernel_rfl
      obtain ⟨u, v, z, rfl⟩ := list_three hl3
      have ci : Try.prog.cellsOf 3 = 1 := by kernel_rfl
      have ca : Try.prog.cellsOf 75 = 1 := by kernel_rfl
      have g0' : DataW.trod enc Try.prog w 0 spare held n1 3 [u] = some y0 := by
        have q : DataW.trod enc Try.prog w 0 spare held n1 3 (([u, v, z].drop 0).take (Try.prog.cellsOf 3)) = some y0 := g0
        rw [ci] at q; exact q
      have g1' : DataW.trod enc Try.prog w 0 spare held n1 3 [v] = some y1 := by
        have q : DataW.trod enc Try.prog w 0 spare held n1 3 (([u, v, z].drop 1).take (Try.prog.cellsOf 3)) = some y1 := g1
        rw [ci] at q; exact q
      have g2' : DataW.trod enc Try.prog w 0 spare held n1 75 [z] = some y2 := by
        have q : DataW.trod enc Try.prog w 0 spare held n1 75 (([u, v, z].drop 2).take (Try.prog.cellsOf 75)) = some y2 := g2
        rw [ca] at q; exact q
      obtain ⟨tg, e0⟩ := t_int Try.underlying3 g0'
      obtain ⟨N, e2⟩ := t_int Try.underlying3 g1'
      obtain ⟨L, c, l, rfl, hA⟩ := ih g2'
      injection e0 with e0; injection e2 with e2
      subst e0; subst e2
      have hc := cells_at q1
      refine ⟨a', tg, N, L, l, c, rfl, ?_, ?_, ?_, hA⟩
      · have := hc 0 _ rfl
        rw [Go.Proofs.YthdmacdeefohkaaOpenT.add_add] at this
        exact this
      · have := hc 1 _ rfl
        rw [Go.Proofs.YthdmacdeefohkaaOpenT.add_add] at this
        rw [← add_field _ _ 1 (by omega)]
        exact this
      · have := hc 2 _ rfl
        rw [Go.Proofs.YthdmacdeefohkaaOpenT.add_add] at this
        rw [← add_field _ _ 2 (by omega)]
        exact this
end
end Go.Proofs.YthdmacdeefohkaaOpenR
