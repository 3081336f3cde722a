/- The document's stack: Unwind. -/
import Derived.Test.YthdmacdeefohkaaGt
import Derived.Test.YthdmacdeefohkaaPStackPlaysx1
namespace Go.Proofs.YthdmacdeefohkaaGu
open Go.RowKit Go.Proofs.YthdmacdeefohkaaW.PrintWords Go.Proofs.YthdmacdeefohkaaW.PrintLast Go.Proofs.YthdmacdeefohkaaW.PrintMore Go.Proofs.YthdmacdeefohkaaMem Go.Proofs.YthdmacdeefohkaaRow Go.Proofs.YthdmacdeefohkaaRowK Go.Proofs.YthdmacdeefohkaaBits Go.Proofs.YthdmacdeefohkaaGs Go.Proofs.YthdmacdeefohkaaGt Go.Proofs
open Go.Proofs.YthdmacdeefohkaaStk (W64)
open Go.Proofs.YthdmacdeefohkaaSUnwind (isC labelOf find_at find_none)
attribute [local go_sem] max2_int min2_int max_two min_two max_three min_three max_four min_four
set_option linter.unusedVariables false
set_option linter.unusedSimpArgs false
theorem isCatch_calls (x : Int) (w : World) (h0 : 0 ≤ x) (h1 : x < 18446744073709551616) : Calls Try.prog 99 #[.int .u64 x] w fun e w' => e = .returned (.tuple #[.int .i64 (labelOf x), .bool (isC x)]) ∧ ∃ nd, w' = w.drewN nd := by
  have e : Go.Proofs.Ythdmacdeefohkaa.PStackPlays.relictref10_IsCatch.f x = some (labelOf x, isC x) := by
    have q : Go.Proofs.Ythdmacdeefohkaa.PStackPlays.relictref10_Now.f x 3 = some (isC x) := by
      unfold Go.Proofs.Ythdmacdeefohkaa.PStackPlays.relictref10_Now.f isC
      rw [u64_and15]
      congr 1
    unfold Go.Proofs.Ythdmacdeefohkaa.PStackPlays.relictref10_IsCatch.f
    rw [q, bindS]
    unfold labelOf
    by_cases hc : isC x = true
    · rw [if_pos hc, if_pos hc, hc]
      have : wrap64 (x / 16) = x / 16 := by unfold wrap64; omega
      rw [this]
    · rw [if_neg hc, if_neg hc]
      simp at hc
      rw [hc]
  refine (Go.Proofs.Ythdmacdeefohkaa.PStackPlays.relictref10_IsCatch.calls x _ _ w e).mono ?_
  rintro e' w' ⟨rfl, hd⟩
  exact ⟨rfl, hd.out⟩
/-- The last of the first m frames that has a catch; the catch. -/
def uL (L : List (Int × List Int)) : Nat → Option (Nat × Int)
  | 0 => none
  | m + 1 => match ((L[m]?).map Prod.snd).getD [] |>.find? isC with
    | some x => some (m, x)
    | none => uL L m
theorem uL_succ (fs : List GF) (m : Nat) (h : m < fs.length) : uL (gab fs) (m + 1) = match (fs[m]).y.find? isC with | some x => some (m, x) | none => uL (gab fs) m := by
  simp [uL, gab, h]
/-- What Unwind leaves. -/
def UPost (B s : Nat) (v : Value) (fs : List GF) (w : World) (e : Ending) (w' : World) : Prop :=
  match uL (gab fs) fs.length with
  | none => e = .returned (.tuple #[.int .i64 0, .int .i64 0, .bool false]) ∧ ∃ nd, w' = w.drewN nd
  | some (i, x) => e = .returned (.tuple #[.int .i64 (x / 16), .int .i64 ((fs.length : Int) - 1 - (i : Int)), .bool true]) ∧ ∃ v', GS B w' s v' (fs.take (i + 1)) ∧ v'.ownBlock = v.ownBlock ∧ Mods (fun k => k = s) w w'
set_option maxHeartbeats 4000000 in
set_option maxRecDepth 100000 in
theorem unwind_calls (w : World) (B s : Nat) (v : Value) (fs : List GF) (h : GS B w s v fs) :
    Calls Try.prog 60 #[.pointer (some ⟨s, 0, none⟩)] w (UPost B s v fs w) := by
  have c0 := h.c0
  have f0 := h.f0
  have hl := h.2.2.2.2.2.1
  have H := Aside0.mk h
  obtain ⟨A, c, hv, hc⟩ := h.2.2.1.form
  have HV : Aside0 (∀ i, i < fs.length → ∃ g, A = some ⟨g, 0, none⟩) := ⟨fun i hi => by
    obtain ⟨g, c', hv', _⟩ := h.2.2.1.some_ (by omega)
    rw [hv] at hv'; injection hv' with hv' _ _
    exact ⟨g, hv'⟩⟩
  rw [hv] at c0
  have HVV := Aside0.mk hv
  clear h hv
  obtain ⟨R, hR⟩ : ∃ R, uL (gab fs) fs.length = R := ⟨_, rfl⟩
  have HRR := Aside0.mk hR
  clear hR
  go_enter Try.func60, Try.ntmps60
  go_wp2
  go_loopg [5] (fs.length + 1) (fun k v5 wr => ∃ (m : Nat) (z : Int), v5 = .int .i64 z ∧ z = (m : Int) - 1 ∧ m ≤ fs.length ∧ k = m + 1 ∧ Aside0 (uL (gab fs) m = R) ∧ ∃ nd, wr = w.drewN nd)
  case atStart => exact ⟨fs.length, _, rfl, by go_num, by omega, rfl, HRR, 0, rfl⟩
  case round =>
    obtain ⟨m, z, rfl, hz, hm, rfl, HU, nd, rfl⟩ := hrel
    cases m with
    | zero =>
      have b1 : ¬ (0 : Int) ≤ z := by omega
      have b2 : decide ((0 : Int) ≤ z) = false := decide_eq_false b1
      clear hz
      have HU0 : R = none := by rw [← HU.out]; rfl
      have HUN := Aside0.mk HU0
      clear HU0
      go_wp2_with fail
      go_ret3
      unfold UPost
      rw [HRR.out, HUN.out]
      exact ⟨by first | rfl | (simp; done), _, rfl⟩
    | succ i =>
      obtain rfl : z = (i : Int) := by omega
      clear hz
      have b1 : (i : Int) < (fs.length : Int) := by omega
      obtain ⟨g, rfl⟩ := HV.out i hm
      obtain ⟨g', c', hv', hc', c1, c2, _, _⟩ := H.out.at_ i hm
      rw [HVV.out] at hv'
      injection hv' with e1 _ e3
      injection e1 with e1
      injection e1 with e1
      subst e1 e3
      have HUS := Aside0.mk (uL_succ fs i hm)
      have hok := H.out.2.2.2.1 _ (List.getElem_mem hm)
      have HFB := Aside0.mk (fun j (hj : j < (fs[i]).y.length) => (show 0 ≤ (fs[i]).y.getD j 0 ∧ (fs[i]).y.getD j 0 < 18446744073709551616 from hok.2.1 _ (by simp [List.getD_eq_getElem?_getD, hj])))
      have hyl : (fs[i]).y.length ≤ 12 := hok.2.2
      obtain ⟨Ay, cy, hvy, hcy, hsl⟩ := hok.slots
      have HFC := Aside0.mk hsl
      rw [hvy] at c2
      clear hok hvy hsl c1 hc'
      generalize (fs[i]).y = fy at c2 HUS HFC HFB hyl hcy
      go_wp2_with fail
      go_loopg [6] (fy.length + 1) (fun q v6 wr => ∃ j : Nat, v6 = .int .i64 j ∧ j ≤ fy.length ∧ q = fy.length + 1 - j ∧ Aside0 (∀ k, k < j → isC (fy.getD k 0) = false) ∧ ∃ nd, wr = w.drewN nd)
      case atStart => exact ⟨0, rfl, by omega, rfl, ⟨fun k hk => by omega⟩, nd, rfl⟩
      case round =>
        obtain ⟨j, rfl, hj, rfl, HJ, nd2, rfl⟩ := hrel
        by_cases hlt : j < fy.length
        · have b3 : (j : Int) < (fy.length : Int) := by omega
          obtain ⟨gy, rfl, hcell, _⟩ := HFC.out j hlt
          obtain ⟨x0, x1⟩ := HFB.out j hlt
          have HFA := Aside0.mk (find_at fy j hlt HJ.out)
          have HJN := Aside0.mk (fun (hx : isC (fy.getD j 0) = false) => (show ∀ k, k < j + 1 → isC (fy.getD k 0) = false from fun k hk => by
            rcases Nat.lt_or_ge k j with h | h
            · exact HJ.out k h
            · rw [show k = j by omega]; exact hx))
          generalize fy.getD j 0 = x at hcell x0 x1 HFA HJN
          have HC := Aside0.mk (isCatch_calls x (w.drewN nd2) x0 x1)
          clear x0 x1
          go_wp2_with fail
          refine HC.out.mono ?_
          rintro e w3 ⟨rfl, n3, rfl⟩
          cases hx : isC x with
          | true =>
            have HRS := Aside0.mk (show R = some (i, x) by
              rw [← HU.out, HUS.out, HFA.out hx])
            rw [show labelOf x = x / 16 by unfold labelOf; rw [hx]; rfl]
            have HCU := Aside0.mk (fun q => GS.cut H.out HVV.out (i + 1) hm q)
            clear HC HFA HJN hx c2 hcell HU HUS HFC HFB HJ
            have q1 : (i : Int) + 1 ≤ (fs.length : Int) := by omega
            have q2 : (i : Int) + 1 ≤ (c : Int) := by omega
            go_wp2_with fail
            go_ret3
            unfold UPost
            rw [HRR.out, HRS.out]
            exact ⟨by first | rfl | (simp; done), _, (HCU.out _).1, by rw [HVV.out]; rfl, (HCU.out _).2⟩
          | false =>
            have HJ2 := Aside0.mk (HJN.out hx)
            clear HC HFA HJN hx
            go_wp2_with fail
            go_roundg (fy.length + 1 - (j + 1))
            case measure => omega
            case rel => exact ⟨j + 1, by go_num, by omega, rfl, HJ2, _, rfl⟩
        · have hje : j = fy.length := by omega
          subst hje
          have b3 : ¬ (fy.length : Int) < (fy.length : Int) := by omega
          have HU2 := Aside0.mk (show uL (gab fs) i = R by
            have := HU.out
            rw [HUS.out, find_none fy HJ.out] at this
            exact this)
          clear HU
          go_wp2_with fail
          go_roundg (i + 1)
          case measure => omega
          case rel => exact ⟨i, _, rfl, by go_num, by omega, rfl, HU2, _, rfl⟩
end Go.Proofs.YthdmacdeefohkaaGu
