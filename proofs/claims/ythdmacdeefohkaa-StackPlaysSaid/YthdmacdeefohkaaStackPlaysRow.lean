/- StackPlays: the row of the law, by its walk: for every list of calls the call answers true; no condition. -/
import Derived.Test.YthdmacdeefohkaaRows
import Derived.WalkKit
import Derived.ProofKit
import Derived.OpenShut
import Derived.ShutString
import Derived.ChangeOld
import Derived.Below
import Derived.Test.YthdmacdeefohkaaSp
import Derived.Deep.Strs
namespace Go.Proofs.Ythdmacdeefohkaa.stackPlays
open Go.ChangeShapes Go.WideShapes Go.ChangeAt Go.RowKit
open Go.ChangeMaps (open_string shut_string)
set_option linter.unusedVariables false

theorem own : ownKnob Try.prog.godebug = none := by kernel_rfl
theorem laidOut : laidOutB Try.prog = true := by kernel_rfl

open Go.Proofs.YthdmacdeefohkaaSp Go.Proofs.YthdmacdeefohkaaW.PrintWords in
theorem wf_u64 {x : Int} (h : (Lit.int .u64 x).wf = true) : 0 ≤ x ∧ x < 18446744073709551616 := by
  simp only [Lit.wf, IntKind.min, IntKind.max, IntKind.signed, IntKind.bits, Bool.and_eq_true] at h
  simp at h
  omega
open Go.Proofs.YthdmacdeefohkaaSp Go.Proofs.YthdmacdeefohkaaW.PrintWords in
theorem row_open {H : Type} {enc : TypeId × Value → H} {w : World} {spare : Nat → Bool} {held : Bool} {fuel : Nat} {cs : List Value} {x : DataW H × List MemPlace} (h : DataW.trod enc Try.prog w 0 spare held fuel 33 cs = some x) :
    ∃ A l c xs, cs = [.slice A l c] ∧ ReadsInt w .u64 A l xs ∧ Go.Proofs.YthdmacdeefohkaaStk.W64 xs ∧ ∀ ad', A = some ad' → 0 < l → ad'.block < w.heap.size := by
  rcases open_ints Try.underlying33 Try.underlying29 (by kernel_rfl) h with ⟨rfl, _⟩ | ⟨a, l, c, zs, rfl, _, hl, hm, hz, _, hcell, hw⟩
  · exact ⟨none, 0, 0, [], rfl, ⟨rfl, by omega, fun h => by omega⟩, fun x hx => by simp at hx, fun _ h => by cases h⟩
  · have hle : l ≤ zs.length := by rw [hz]; split <;> omega
    refine ⟨some a, l, c, zs.take l, rfl, ⟨by rw [List.length_take]; omega, by unfold maxLen at hm; omega, fun _ => ⟨a, rfl, fun j hj => ?_⟩⟩, fun x hx => wf_u64 (hw x (List.mem_of_mem_take hx)), fun ad' e h0 => ?_⟩
    · rw [hcell j (by omega)]
      simp [List.getD_eq_getElem?_getD, hj]
    · injection e with e
      subst e
      have := World.block_lt_of_cell? w _ (hcell 0 (by omega))
      simpa [Addr.add] using this
open Go.Proofs.YthdmacdeefohkaaSp Go.Proofs.YthdmacdeefohkaaW.PrintWords in
set_option maxRecDepth 100000 in
/-- A call that came in, opened. -/
theorem op_open {H : Type} {enc : TypeId × Value → H} {w : World} {spare : Nat → Bool} {held : Bool} {fuel : Nat} {cs : List Value} {x : DataW H × List MemPlace} (h : DataW.trod enc Try.prog w 0 spare held fuel 86 cs = some x) :
    ∃ q : OpV, cs = [.int .i64 q.kd, .int .i64 q.m, .int .i64 q.b, .int .u64 q.x, .slice q.A q.l q.c] ∧ 0 ≤ q.x ∧ q.x < 18446744073709551616 ∧ ReadsInt w .u64 q.A q.l q.xs ∧ Go.Proofs.YthdmacdeefohkaaStk.W64 q.xs ∧ ∀ ad', q.A = some ad' → 0 < q.l → ad'.block < w.heap.size := by
  obtain ⟨xs, n, _, rfl, hl, hlen, hfs⟩ := DataW.trod_struct Try.underlying86 h
  have hl5 : cs.length = 5 := by rw [hl]; kernel_rfl
  have hx : ∀ i, i < 5 → ∃ z, xs[i]? = some z := fun i hi => ⟨_, List.getElem?_eq_getElem (by rw [hlen]; exact hi)⟩
  obtain ⟨z0, h0⟩ := hx 0 (by omega)
  obtain ⟨z1, h1⟩ := hx 1 (by omega)
  obtain ⟨z2, h2⟩ := hx 2 (by omega)
  obtain ⟨z3, h3⟩ := hx 3 (by omega)
  obtain ⟨z4, h4⟩ := hx 4 (by omega)
  have c3 : Try.prog.cellsOf 3 = 1 := by kernel_rfl
  have c29 : Try.prog.cellsOf 29 = 1 := by kernel_rfl
  have c33 : Try.prog.cellsOf 33 = 1 := by kernel_rfl
  match cs, hl5 with
  | [a, b, c, d, e], _ =>
    have f0 : DataW.trod enc Try.prog w 0 spare held n 3 [a] = some z0 := by
      have q : DataW.trod enc Try.prog w 0 spare held n 3 (([a, b, c, d, e].drop 0).take (Try.prog.cellsOf 3)) = xs[0]? := hfs 0 _ rfl
      rw [c3, h0] at q; exact q
    have f1 : DataW.trod enc Try.prog w 0 spare held n 3 [b] = some z1 := by
      have q : DataW.trod enc Try.prog w 0 spare held n 3 (([a, b, c, d, e].drop 1).take (Try.prog.cellsOf 3)) = xs[1]? := hfs 1 _ rfl
      rw [c3, h1] at q; exact q
    have f2 : DataW.trod enc Try.prog w 0 spare held n 3 [c] = some z2 := by
      have q : DataW.trod enc Try.prog w 0 spare held n 3 (([a, b, c, d, e].drop 2).take (Try.prog.cellsOf 3)) = xs[2]? := hfs 2 _ rfl
      rw [c3, h2] at q; exact q
    have f3 : DataW.trod enc Try.prog w 0 spare held n 29 [d] = some z3 := by
      have q : DataW.trod enc Try.prog w 0 spare held n 29 (([a, b, c, d, e].drop 3).take (Try.prog.cellsOf 29)) = xs[3]? := hfs 3 _ rfl
      rw [c29, h3] at q; exact q
    have f4 : DataW.trod enc Try.prog w 0 spare held n 33 [e] = some z4 := by
      have q : DataW.trod enc Try.prog w 0 spare held n 33 (([a, b, c, d, e].drop 4).take (Try.prog.cellsOf 33)) = xs[4]? := hfs 4 _ rfl
      rw [c33, h4] at q; exact q
    obtain ⟨q0, e0, _, _⟩ := DataW.trod_int Try.underlying3 f0
    obtain ⟨q1, e1, _, _⟩ := DataW.trod_int Try.underlying3 f1
    obtain ⟨q2, e2, _, _⟩ := DataW.trod_int Try.underlying3 f2
    obtain ⟨q3, e3, _, wf⟩ := DataW.trod_int Try.underlying29 f3
    obtain ⟨A, l, cp, zs, e4, g1, g2, g3⟩ := row_open f4
    simp at e0 e1 e2 e3 e4
    subst e0 e1 e2 e3 e4
    have hb := wf_u64 wf
    exact ⟨⟨q0, q1, q2, q3, A, l, cp, zs⟩, rfl, hb.1, hb.2, g1, g2, g3⟩
open Go.Proofs.YthdmacdeefohkaaSp in
/-- A slice of calls that came in, opened. -/
theorem ops_open {H : Type} {enc : TypeId × Value → H} {w : World} {fuel : Nat} {a : Option Addr} {len cap : Nat} {x : DataW H × List MemPlace} (h : DataW.trod enc Try.prog w 0 (fun _ => true) true fuel 80 [.slice a len cap] = some x) : ∃ f, OpRow w a len f := by
  rcases Go.Deep.open_slice Try.underlying80 h with ⟨hcs, _⟩ | ⟨ad, l, c, m, n, D, Pl, hcs, _, hl, hm, hmm, _, hx⟩
  · simp at hcs
    obtain ⟨rfl, rfl, rfl⟩ := hcs
    exact ⟨fun _ => ⟨0, 0, 0, 0, none, 0, 0, []⟩, by omega, fun h => by omega⟩
  · simp at hcs
    obtain ⟨rfl, rfl, rfl⟩ := hcs
    have hmc : m = cap := by rw [hmm]; simp
    have each : ∀ i, i < len → ∃ q : OpV, (w.cell? (ad.add (i * 5)) = some (.int .i64 q.kd) ∧ w.cell? ⟨(ad.add (i * 5)).block, (ad.add (i * 5)).off + 1, none⟩ = some (.int .i64 q.m) ∧ w.cell? ⟨(ad.add (i * 5)).block, (ad.add (i * 5)).off + 2, none⟩ = some (.int .i64 q.b) ∧ w.cell? ⟨(ad.add (i * 5)).block, (ad.add (i * 5)).off + 3, none⟩ = some (.int .u64 q.x) ∧ w.cell? ⟨(ad.add (i * 5)).block, (ad.add (i * 5)).off + 4, none⟩ = some (.slice q.A q.l q.c)) ∧ 0 ≤ q.x ∧ q.x < 18446744073709551616 ∧ Go.Proofs.YthdmacdeefohkaaW.PrintWords.ReadsInt w .u64 q.A q.l q.xs ∧ Go.Proofs.YthdmacdeefohkaaStk.W64 q.xs ∧ ∀ ad', q.A = some ad' → 0 < q.l → ad'.block < w.heap.size := by
      intro i hi
      obtain ⟨cs', h1, h2⟩ := hx i (by omega)
      have ce : Try.prog.cellsOf 86 = 5 := by kernel_rfl
      rw [ce] at h1
      obtain ⟨_, hlen, hcell⟩ := World.cells?_some h1
      obtain ⟨q, rfl, g⟩ := op_open h2
      have r0 := hcell 0 (by omega)
      have r1 := hcell 1 (by omega)
      have r2 := hcell 2 (by omega)
      have r3 := hcell 3 (by omega)
      have r4 := hcell 4 (by omega)
      rw [Go.Deep.add_add] at r0 r1 r2 r3 r4
      rw [Go.Proofs.YthdmacdeefohkaaW.PrintWords.add_field _ _ _ (by omega)] at r1 r2 r3 r4
      exact ⟨q, ⟨by simpa using r0, by simpa using r1, by simpa using r2, by simpa using r3, by simpa using r4⟩, g⟩
    haveI : Inhabited OpV := ⟨⟨0, 0, 0, 0, none, 0, 0, []⟩⟩
    obtain ⟨f, hf⟩ := Go.Deep.choose_lt each
    exact ⟨f, by unfold maxLen at hm; omega, fun _ => ⟨ad, rfl, hf⟩⟩
set_option maxRecDepth 100000 in
theorem lifted (os : Os) (started : os.Started) (H : Type) (enc : TypeId × Value → H) :
    ReturnsInHanded {} Try.checked os 11 .any (Rows.stackPlaysSpec.pre6 enc Try.prog Try.f11 Rows.stackPlaysRow.domain false) (Rows.stackPlaysSpec.post enc Try.prog Try.f11 false true false false) := by
  refine returnsInHanded_of_change (C := Try.checked) own started (by kernel_rfl) Try.func11
    (ChangeSpec.witness6 (enc := enc) (C := Try.checked) false ⟨#[], #[.slice none 0 0], []⟩ 8 (by kernel_rfl) (by kernel_rfl) (by kernel_rfl) (by kernel_rfl)) ?_
  intro W base args ds gs before hval0 hW hcnd _
  have hval : ∀ (j : Nat) t v, Try.f11.params[j]? = some t → args[j]? = some v → Value.okWide Try.prog W .any base t v := hval0
  have hW' := hW
  obtain ⟨p, q, hA0, hV, rfl, hfz, hnd⟩ := hW
  have hA : DataW.TrodAll enc Try.prog W 0 (fun _ => true) true Try.f11.params.toList args.toList ds p := hA0
  rw [Try.params11] at hA hval
  obtain ⟨v0, vs0, d0, ds0, p0, q0, hargs, rfl, rfl, h0, r0⟩ := trodAll_cons hA
  obtain ⟨rfl, rfl, rfl⟩ := trodAll_nil r0
  obtain rfl : args = #[v0] := by cases args; simp_all
  obtain ⟨rfl, rfl⟩ := trodVars_none hV
  obtain ⟨a0, len0, cap0, rfl⟩ := okWide_slice Try.underlying80 (hval 0 80 v0 rfl rfl)
  have k0 := h0
  have lt0 : ∀ x ∈ p0, x.block < W.heap.size := by obtain ⟨m, hm⟩ := k0; exact DataW.trod_lt m _ _ _ hm
  obtain ⟨f0, w0⟩ : ∃ f, Go.Proofs.YthdmacdeefohkaaSp.OpRow W a0 len0 f := by
    obtain ⟨fuel, hf⟩ := h0
    exact ops_open (by simpa [Value.cells] using hf)
  clear hA0 hval0
  refine (Go.Proofs.YthdmacdeefohkaaSp.law_calls a0 len0 cap0 f0 W w0).mono fun e W' ⟨he, bel⟩ => ?_
  subst he
  exact ⟨_, rfl, _, _, _, [], _, [], hW', trodAll_mk1 (shut_bool Try.underlying4 _), (trodAll_cons_mk (Below.trod laidOut (by kernel_rfl) (of_decide_eq_true (by kernel_rfl)) k0 bel lt0) trodAll_mk0), rfl, bel.frame _, fun h => by cases h⟩

theorem over : Rows.stackPlaysRow.holds Try.pinned (OpenSpec.ofChange Rows.stackPlaysSpec) :=
  OpenClaim.holds_of_wide 11 Try.f11 rfl rfl rfl rfl rfl rfl rfl ⟨rfl, rfl, rfl, rfl, rfl⟩ rfl rfl rfl rfl rfl (by kernel_rfl) Try.func11 (by kernel_rfl)
    (of_decide_eq_true (by kernel_rfl)) (by unfold Func.isWrapper; first | (rw [if_pos (by decide +kernel)]; kernel_rfl) | (rw [if_neg (by decide +kernel)]; exact ⟨rfl, rfl⟩))
    (fun os started H enc _ => lifted os started H enc)

theorem proved : Rows.StackPlaysSaid := over
#print axioms proved
end Go.Proofs.Ythdmacdeefohkaa.stackPlays
namespace Go.Proofs.Ythdmacdeefohkaa
/-- The row, under a short name, for the claim. -/
theorem stackPlays_holds : Rows.StackPlaysSaid := stackPlays.proved
end Go.Proofs.Ythdmacdeefohkaa
