/- Proved: regs.Put puts what it is told to put, turns nothing that was handed in, and leaves all else as it was. For every registers, operand and term, without any condition. -/
import Derived.Test.YthdmacdeefohkaaRows
import Derived.WalkKit
import Derived.ProofKit
import Derived.OpenShut
import Derived.ShutString
import Derived.ChangeOld
import Derived.Below
import Derived.Test.YthdmacdeefohkaaOpenRM
import Derived.Test.YthdmacdeefohkaaRpM
namespace Go.Proofs.Ythdmacdeefohkaa.regsPuts
open Go.ChangeShapes Go.WideShapes Go.ChangeAt Go.RowKit Go.Proofs.YthdmacdeefohkaaMTerm Go.Proofs.Ythdmacdeefohkaa.PMa Go.Proofs.YthdmacdeefohkaaRv Go.Proofs.YthdmacdeefohkaaFa Go.Proofs.YthdmacdeefohkaaOpenT Go.Proofs.YthdmacdeefohkaaOpenR
set_option linter.unusedVariables false
theorem own : ownKnob Try.prog.godebug = none := by kernel_rfl
theorem laidOut : laidOutB Try.prog = true := by kernel_rfl
set_option maxRecDepth 100000 in
theorem lifted (os : Os) (started : os.Started) (H : Type) (enc : TypeId × Value → H) :
    ReturnsInHanded {} Try.checked os 12 .any (Rows.regsPutsSpec.pre6 enc Try.prog Try.f12 Rows.regsPutsRow.domain false) (Rows.regsPutsSpec.post enc Try.prog Try.f12 false true false false) := by
  refine returnsInHanded_of_change (C := Try.checked) own started (by kernel_rfl) Try.func12
    (ChangeSpec.witness6 (enc := enc) (C := Try.checked) false ⟨#[], #[.agg #[.int .i64 0, .bool false, .slice none 0 0, .string ByteArray.empty, .int .i64 0, .slice none 0 0, .int .i64 0, .bool false, .slice none 0 0, .string ByteArray.empty, .int .i64 0, .slice none 0 0, .int .i64 0, .bool false, .slice none 0 0, .string ByteArray.empty, .int .i64 0, .slice none 0 0, .int .i64 0, .bool false, .slice none 0 0, .string ByteArray.empty, .int .i64 0, .slice none 0 0, .int .i64 0, .bool false, .slice none 0 0, .string ByteArray.empty, .int .i64 0, .slice none 0 0, .int .i64 0, .bool false, .slice none 0 0, .string ByteArray.empty, .int .i64 0, .slice none 0 0, .int .i64 0, .bool false, .slice none 0 0, .string ByteArray.empty, .int .i64 0, .slice none 0 0, .int .i64 0, .bool false, .slice none 0 0, .string ByteArray.empty, .int .i64 0, .slice none 0 0, .int .i64 0, .bool false, .slice none 0 0, .string ByteArray.empty, .int .i64 0, .slice none 0 0, .int .i64 0, .bool false, .slice none 0 0, .string ByteArray.empty, .int .i64 0, .slice none 0 0, .int .i64 0, .bool false, .slice none 0 0, .string ByteArray.empty, .int .i64 0, .slice none 0 0, .int .i64 0, .bool false, .slice none 0 0, .string ByteArray.empty, .int .i64 0, .slice none 0 0, .int .i64 0, .bool false, .slice none 0 0, .string ByteArray.empty, .int .i64 0, .slice none 0 0, .int .i64 0, .bool false, .slice none 0 0, .string ByteArray.empty, .int .i64 0, .slice none 0 0, .int .i64 0, .bool false, .slice none 0 0, .string ByteArray.empty, .int .i64 0, .slice none 0 0, .int .i64 0, .bool false, .slice none 0 0, .string ByteArray.empty, .int .i64 0, .slice none 0 0, .slice none 0 0, .bool false, .int .i64 0, .int .i64 0, .int .i64 0], .agg #[.int .i64 0, .int .i64 0, .slice none 0 0], .agg #[.int .i64 0, .bool false, .slice none 0 0, .string ByteArray.empty, .int .i64 0, .slice none 0 0]], []⟩ 8 (by kernel_rfl) (by kernel_rfl) (by kernel_rfl) (by kernel_rfl)) ?_
  intro W base args ds gs before hval0 hW hcnd _
  have hval : ∀ (j : Nat) t v, Try.f12.params[j]? = some t → args[j]? = some v → Value.okWide Try.prog W .any base t v := hval0
  have hW' := hW
  obtain ⟨p, q, hA0, hV, rfl, hfz, hnd⟩ := hW
  have hA : DataW.TrodAll enc Try.prog W 0 (fun _ => true) true Try.f12.params.toList args.toList ds p := hA0
  rw [Try.params12] at hA hval
  obtain ⟨v0, vs0, d0, ds0, p0, q0, hargs, rfl, rfl, h0, r0⟩ := trodAll_cons hA
  obtain ⟨v1, vs1, d1, ds1, p1, q1, rfl, rfl, rfl, h1, r1⟩ := trodAll_cons r0
  obtain ⟨v2, vs2, d2, ds2, p2, q2, rfl, rfl, rfl, h2, r2⟩ := trodAll_cons r1
  obtain ⟨rfl, rfl, rfl⟩ := trodAll_nil r2
  obtain rfl : args = #[v0, v1, v2] := by cases args; simp_all
  obtain ⟨rfl, rfl⟩ := trodVars_none hV
  obtain ⟨cs0, rfl, hcs0⟩ := okWide_struct Try.underlying92 (hval 0 92 v0 rfl rfl)
  obtain ⟨cs1, rfl, hcs1⟩ := okWide_struct Try.underlying77 (hval 1 77 v1 rfl rfl)
  obtain ⟨cs2, rfl, hcs2⟩ := okWide_struct Try.underlying45 (hval 2 45 v2 rfl rfl)
  have k0 := h0
  have k1 := h1
  have k2 := h2
  have lt0 : ∀ x ∈ p0, x.block < W.heap.size := by obtain ⟨m, hm⟩ := k0; exact DataW.trod_lt m _ _ _ hm
  have lt1 : ∀ x ∈ p1, x.block < W.heap.size := by obtain ⟨m, hm⟩ := k1; exact DataW.trod_lt m _ _ _ hm
  have lt2 : ∀ x ∈ p2, x.block < W.heap.size := by obtain ⟨m, hm⟩ := k2; exact DataW.trod_lt m _ _ _ hm
  obtain ⟨r, hr⟩ : ∃ r, Rd W cs0 r := by
    obtain ⟨fuel, hf⟩ := h0
    obtain ⟨r, hr⟩ := open_R hf
    exact ⟨r, hr⟩
  obtain ⟨tg, n, L, l, lc, rfl, hAR⟩ : ∃ tg n L l lc, cs1 = #[.int .i64 tg, .int .i64 n, .slice L l lc] ∧ AR 4 W L l := by
    obtain ⟨fuel, hf⟩ := h1
    obtain ⟨y0, y1, y2, n1, _, hl, g0, g1, g2⟩ := Go.Deep.trod_struct3 Try.underlying77 hf
    have hl3 : (Value.agg cs1).cells.toList.length = 3 := by rw [hl]; kernel_rfl
    obtain ⟨u, v, z, e⟩ := list_three hl3
    rw [e] at g0 g1 g2
    have ci : Try.prog.cellsOf 3 = 1 := by kernel_rfl
    have ca : Try.prog.cellsOf 75 = 1 := by kernel_rfl
    have g0' : DataW.trod enc Try.prog W 0 (fun _ => true) true n1 3 [u] = some y0 := by
      have q : DataW.trod enc Try.prog W 0 (fun _ => true) true n1 3 (([u, v, z].drop 0).take (Try.prog.cellsOf 3)) = some y0 := g0
      rw [ci] at q; exact q
    have g1' : DataW.trod enc Try.prog W 0 (fun _ => true) true n1 3 [v] = some y1 := by
      have q : DataW.trod enc Try.prog W 0 (fun _ => true) true n1 3 (([u, v, z].drop 1).take (Try.prog.cellsOf 3)) = some y1 := g1
      rw [ci] at q; exact q
    have g2' : DataW.trod enc Try.prog W 0 (fun _ => true) true n1 75 [z] = some y2 := by
      have q : DataW.trod enc Try.prog W 0 (fun _ => true) true n1 75 (([u, v, z].drop 2).take (Try.prog.cellsOf 75)) = some y2 := g2
      rw [ca] at q; exact q
    obtain ⟨tg, e0⟩ := t_int Try.underlying3 g0'
    obtain ⟨n, e2⟩ := t_int Try.underlying3 g1'
    obtain ⟨L, c, l, e3, hA⟩ := open_args 4 g2'
    injection e0 with e0; injection e2 with e2
    subst e0; subst e2; subst e3
    refine ⟨tg, n, L, l, c, ?_, hA⟩
    apply Array.ext'
    exact e
  obtain ⟨x, A2, c2, A5, c5, rfl, hx⟩ : ∃ x A2 c2 A5 c5, cs2 = cellsT x A2 c2 A5 c5 ∧ Lies W x A2 c2 A5 c5 := by
    obtain ⟨fuel, hf⟩ := h2
    obtain ⟨x, hk⟩ := open_term fuel fuel (Nat.le_refl _) _ _ hf
    obtain ⟨A2, c2, A5, c5, e, g1, g2, g3, g4⟩ := k45_open hk
    refine ⟨x, A2, c2, A5, c5, ?_, g2, g1, g4, g3⟩
    apply Array.ext'
    exact e
  clear hA0 hval0
  refine (Go.Proofs.YthdmacdeefohkaaRpW.law_calls W cs0 r hr tg n L l lc hAR x A2 c2 A5 c5 hx).mono fun e W' ⟨he, bel⟩ => ?_
  subst he
  exact ⟨_, rfl, _, _, _, [], _, [], hW', trodAll_mk1 (shut_bool Try.underlying4 _), (trodAll_cons_mk (Below.trod laidOut (by kernel_rfl) (of_decide_eq_true (by kernel_rfl)) k0 bel lt0) (trodAll_cons_mk (Below.trod laidOut (by kernel_rfl) (of_decide_eq_true (by kernel_rfl)) k1 bel lt1) (trodAll_cons_mk (Below.trod laidOut (by kernel_rfl) (of_decide_eq_true (by kernel_rfl)) k2 bel lt2) trodAll_mk0))), rfl, bel.frame _, fun h => by cases h⟩

theorem over : Rows.regsPutsRow.holds Try.pinned (OpenSpec.ofChange Rows.regsPutsSpec) :=
  OpenClaim.holds_of_wide 12 Try.f12 rfl rfl rfl rfl rfl rfl rfl ⟨rfl, rfl, rfl, rfl, rfl⟩ rfl rfl rfl rfl rfl (by kernel_rfl) Try.func12 (by kernel_rfl)
    (of_decide_eq_true (by kernel_rfl)) (by unfold Func.isWrapper; first | (rw [if_pos (by decide +kernel)]; kernel_rfl) | (rw [if_neg (by decide +kernel)]; exact ⟨rfl, rfl⟩))
    (fun os started H enc _ => lifted os started H enc)

theorem proved : Rows.RegsPutsSaid :=
  over
#print axioms proved
end Go.Proofs.Ythdmacdeefohkaa.regsPuts
namespace Go.Proofs.Ythdmacdeefohkaa
/-- The row, under a short name, for the claim. -/
theorem regsPuts_holds : Rows.RegsPutsSaid := regsPuts.proved
end Go.Proofs.Ythdmacdeefohkaa
