/- ArenaPlays: the row of the law, by its walk: for every size and every list of calls the call answers true; no condition. -/
import Derived.Test.YtbephainjmgpjaaRows
import Derived.WalkKit
import Derived.ProofKit
import Derived.OpenShut
import Derived.ShutString
import Derived.ChangeOld
import Derived.Below
import Derived.Test.YtbephainjmgpjaaPlays
import Derived.Deep.Strs
namespace Go.Proofs.Ytbephainjmgpjaa.arenaPlays
open Go.ChangeShapes Go.WideShapes Go.ChangeAt Go.RowKit
open Go.ChangeMaps (open_string shut_string)
open Go.Proofs.YtbephainjmgpjaaWRef (wf_u64)
set_option linter.unusedVariables false

theorem own : ownKnob Try.prog.godebug = none := by kernel_rfl
theorem laidOut : laidOutB Try.prog = true := by kernel_rfl

open Go.Proofs.YtbephainjmgpjaaPlays in
/-- A slice of calls that came in, opened. -/
theorem ops_open {H : Type} {enc : TypeId × Value → H} {w : World} {fuel : Nat} {a : Option Addr} {len cap : Nat} {x : DataW H × List MemPlace} (h : DataW.trod enc Try.prog w 0 (fun _ => true) true fuel 47 [.slice a len cap] = some x) : ∃ f, OpRow w a len f := by
  rcases Go.Deep.open_slice Try.underlying47 h with ⟨hcs, _⟩ | ⟨ad, l, c, m, n, D, Pl, hcs, _, hl, hm, hmm, _, hx⟩
  · simp at hcs
    obtain ⟨rfl, rfl, rfl⟩ := hcs
    exact ⟨fun _ => (0, 0, 0), by omega, fun h => by omega⟩
  · simp at hcs
    obtain ⟨rfl, rfl, rfl⟩ := hcs
    have hmc : m = cap := by rw [hmm]; simp
    have each : ∀ i, i < len → ∃ q : Int × Int × Int, w.cell? (ad.add (i * 3)) = some (.int .i64 q.1) ∧ w.cell? ⟨(ad.add (i * 3)).block, (ad.add (i * 3)).off + 1, none⟩ = some (.int .i64 q.2.1) ∧ w.cell? ⟨(ad.add (i * 3)).block, (ad.add (i * 3)).off + 2, none⟩ = some (.int .u64 q.2.2) ∧ 0 ≤ q.2.2 ∧ q.2.2 < 18446744073709551616 := by
      intro i hi
      obtain ⟨cs', h1, h2⟩ := hx i (by omega)
      have ce : Try.prog.cellsOf 51 = 3 := by kernel_rfl
      have c3 : Try.prog.cellsOf 3 = 1 := by kernel_rfl
      have c23 : Try.prog.cellsOf 23 = 1 := by kernel_rfl
      rw [ce] at h1
      obtain ⟨_, hlen, hcell⟩ := World.cells?_some h1
      obtain ⟨y0, y1, y2, k, _, _, g0, g1, g2⟩ := Go.Deep.trod_struct3 Try.underlying51 h2
      match cs', hlen with
      | [v0, v1, v2], _ =>
        simp [c3, c23] at g0 g1 g2
        obtain ⟨q0, e0, _, _⟩ := DataW.trod_int Try.underlying3 g0
        obtain ⟨q1, e1, _, _⟩ := DataW.trod_int Try.underlying3 g1
        obtain ⟨q2, e2, _, wf⟩ := DataW.trod_int Try.underlying23 g2
        simp at e0 e1 e2
        subst e0 e1 e2
        have hb := wf_u64 wf
        have r0 := hcell 0 (by omega)
        have r1 := hcell 1 (by omega)
        have r2 := hcell 2 (by omega)
        rw [Go.Deep.add_add] at r0 r1 r2
        rw [Go.Proofs.YtbephainjmgpjaaW.PrintWords.add_field _ _ _ (by omega)] at r1 r2
        exact ⟨(q0, q1, q2), by simpa using r0, by simpa using r1, by simpa using r2, hb.1, hb.2⟩
    obtain ⟨f, hf⟩ := Go.Deep.choose_lt each
    exact ⟨f, by unfold maxLen at hm; omega, fun _ => ⟨ad, rfl, hf⟩⟩
set_option maxRecDepth 100000 in
theorem lifted (os : Os) (started : os.Started) (H : Type) (enc : TypeId × Value → H) :
    ReturnsInHanded {} Try.checked os 9 .any (Rows.arenaPlaysSpec.pre6 enc Try.prog Try.f9 Rows.arenaPlaysRow.domain false) (Rows.arenaPlaysSpec.post enc Try.prog Try.f9 false true false false) := by
  refine returnsInHanded_of_change (C := Try.checked) own started (by kernel_rfl) Try.func9
    (ChangeSpec.witness6 (enc := enc) (C := Try.checked) false ⟨#[], #[.int .i64 0, .slice none 0 0], []⟩ 8 (by kernel_rfl) (by kernel_rfl) (by kernel_rfl) (by kernel_rfl)) ?_
  intro W base args ds gs before hval0 hW hcnd _
  have hval : ∀ (j : Nat) t v, Try.f9.params[j]? = some t → args[j]? = some v → Value.okWide Try.prog W .any base t v := hval0
  have hW' := hW
  obtain ⟨p, q, hA0, hV, rfl, hfz, hnd⟩ := hW
  have hA : DataW.TrodAll enc Try.prog W 0 (fun _ => true) true Try.f9.params.toList args.toList ds p := hA0
  rw [Try.params9] at hA hval
  obtain ⟨v0, vs0, d0, ds0, p0, q0, hargs, rfl, rfl, h0, r0⟩ := trodAll_cons hA
  obtain ⟨v1, vs1, d1, ds1, p1, q1, rfl, rfl, rfl, h1, r1⟩ := trodAll_cons r0
  obtain ⟨rfl, rfl, rfl⟩ := trodAll_nil r1
  obtain rfl : args = #[v0, v1] := by cases args; simp_all
  obtain ⟨rfl, rfl⟩ := trodVars_none hV
  obtain ⟨a0, rfl, rfl, rfl, w0⟩ := open_int Try.underlying3 (hval 0 3 v0 rfl rfl) h0
  obtain ⟨a1, len1, cap1, rfl⟩ := okWide_slice Try.underlying47 (hval 1 47 v1 rfl rfl)
  have k1 := h1
  have lt1 : ∀ x ∈ p1, x.block < W.heap.size := by obtain ⟨m, hm⟩ := k1; exact DataW.trod_lt m _ _ _ hm
  obtain ⟨f1, w1⟩ : ∃ f, Go.Proofs.YtbephainjmgpjaaPlays.OpRow W a1 len1 f := by
    obtain ⟨fuel, hf⟩ := h1
    exact ops_open (by simpa [Value.cells] using hf)
  clear hA0 hval0
  refine (Go.Proofs.YtbephainjmgpjaaPlays.law_calls a0 a1 len1 cap1 f1 W w1).mono fun e W' ⟨he, bel⟩ => ?_
  subst he
  exact ⟨_, rfl, _, _, _, [], _, [], hW', trodAll_mk1 (shut_bool Try.underlying4 _), (trodAll_cons_mk (shut_int Try.underlying3 w0) (trodAll_cons_mk (Below.trod laidOut (by kernel_rfl) (of_decide_eq_true (by kernel_rfl)) k1 bel lt1) trodAll_mk0)), rfl, bel.frame _, fun h => by cases h⟩

theorem over : Rows.arenaPlaysRow.holds Try.pinned (OpenSpec.ofChange Rows.arenaPlaysSpec) :=
  OpenClaim.holds_of_wide 9 Try.f9 rfl rfl rfl rfl rfl rfl rfl ⟨rfl, rfl, rfl, rfl, rfl⟩ rfl rfl rfl rfl rfl (by kernel_rfl) Try.func9 (by kernel_rfl)
    (of_decide_eq_true (by kernel_rfl)) (by unfold Func.isWrapper; first | (rw [if_pos (by decide +kernel)]; kernel_rfl) | (rw [if_neg (by decide +kernel)]; exact ⟨rfl, rfl⟩))
    (fun os started H enc _ => lifted os started H enc)

theorem proved : Rows.ArenaPlaysSaid := over
#print axioms proved
end Go.Proofs.Ytbephainjmgpjaa.arenaPlays
namespace Go.Proofs.Ytbephainjmgpjaa
/-- The row, under a short name, for the claim. -/
theorem arenaPlays_holds : Rows.ArenaPlaysSaid := arenaPlays.proved
end Go.Proofs.Ytbephainjmgpjaa
