/- The contract of Unwind of a stack. -/
import Derived.Test.YthdmacdeefohkaaSWords
import Derived.Test.YthdmacdeefohkaaPStackUnwindsx1
import Derived.WalkMore
namespace Go.Proofs.YthdmacdeefohkaaSUnwind
open Go.RowKit Go.Proofs.YthdmacdeefohkaaW.PrintWords Go.Proofs.YthdmacdeefohkaaW.PrintLast Go.Proofs.YthdmacdeefohkaaW.PrintMore Go.Proofs.YthdmacdeefohkaaMem Go.Proofs.YthdmacdeefohkaaRow Go.Proofs.YthdmacdeefohkaaBits Go.Proofs.YthdmacdeefohkaaStk Go.Proofs.YthdmacdeefohkaaSWords Go.Proofs
set_option linter.unusedVariables false
set_option linter.unusedSimpArgs false
/-- Is a word a catch? Its label. -/
def isC (x : Int) : Bool := x % 16 == 15
def labelOf (x : Int) : Int := if isC x then x / 16 else 0
theorem isCatch_calls (x : Int) (w : World) (h0 : 0 ≤ x) (h1 : x < 18446744073709551616) : Calls Try.prog 93 #[.int .u64 x] w fun e w' => e = .returned (.tuple #[.int .i64 (labelOf x), .bool (isC x)]) ∧ ∃ nd, w' = w.drewN nd := by
  have e : Go.Proofs.Ythdmacdeefohkaa.PStackUnwinds.word_IsCatch.f x = some (labelOf x, isC x) := by
    have q : Go.Proofs.Ythdmacdeefohkaa.PStackUnwinds.word_is.f x 3 = some (isC x) := by
      unfold Go.Proofs.Ythdmacdeefohkaa.PStackUnwinds.word_is.f isC
      rw [u64_and15]
      congr 1
    unfold Go.Proofs.Ythdmacdeefohkaa.PStackUnwinds.word_IsCatch.f
    rw [q, bindS]
    unfold labelOf
    by_cases hc : isC x = true
    · rw [if_pos hc, if_pos hc, hc]
      have : wrap64 (x / 16) = x / 16 := by unfold wrap64; omega
      rw [this]
    · rw [if_neg hc, if_neg hc]
      simp at hc
      rw [hc]
  refine (Go.Proofs.Ythdmacdeefohkaa.PStackUnwinds.word_IsCatch.calls x _ _ w e).mono ?_
  rintro e' w' ⟨rfl, hd⟩
  exact ⟨rfl, hd.out⟩
/-- The last of the first m frames that has a catch; the catch. -/
def unwA (fs : List Fr) : Nat → Option (Nat × Int)
  | 0 => none
  | m + 1 => match ((fs[m]?).map Fr.y).getD [] |>.find? isC with
    | some x => some (m, x)
    | none => unwA fs m
theorem find_at (y : List Int) : ∀ j, j < y.length → (∀ k, k < j → isC (y.getD k 0) = false) → isC (y.getD j 0) = true → y.find? isC = some (y.getD j 0) := by
  induction y with
  | nil => intro j h; simp at h
  | cons a y ih =>
    intro j hj hn hc
    cases j with
    | zero => simp at hc; simp [List.find?, hc]
    | succ j =>
      have h0 := hn 0 (by omega)
      simp at h0
      simp only [List.find?, h0]
      simp at hj hc
      have := ih j hj (fun k hk => by have := hn (k + 1) (by omega); simpa using this) (by simpa using hc)
      simpa using this
theorem find_none (y : List Int) (h : ∀ k, k < y.length → isC (y.getD k 0) = false) : y.find? isC = none := by
  rw [List.find?_eq_none]
  intro x hx
  obtain ⟨k, hk, rfl⟩ := List.getElem_of_mem hx
  have := h k hk
  simp [List.getD_eq_getElem?_getD, hk] at this
  simp [this]
theorem unwA_succ (fs : List Fr) (m : Nat) (h : m < fs.length) : unwA fs (m + 1) = match (fs[m]).y.find? isC with | some x => some (m, x) | none => unwA fs m := by
  simp [unwA, h]
/-- What Unwind leaves. -/
def UnwPost (B s : Nat) (v : Value) (fs : List Fr) (w : World) (e : Ending) (w' : World) : Prop :=
  match unwA fs fs.length with
  | none => e = .returned (.tuple #[.int .i64 0, .int .i64 0, .bool false]) ∧ ∃ nd, w' = w.drewN nd
  | some (i, x) => e = .returned (.tuple #[.int .i64 (x / 16), .int .i64 ((fs.length : Int) - 1 - (i : Int)), .bool true]) ∧ ∃ v', St B w' s v' (fs.take (i + 1)) ∧ v'.ownBlock = v.ownBlock ∧ Mods (fun k => k = s) w w'
/-- The first i + 1 frames, when the slice has been cut. -/
theorem St.cut {B s : Nat} {w : World} {v : Value} {fs : List Fr} {g c : Nat} (h : St B w s v fs) (hv : v = .slice (some ⟨g, 0, none⟩) fs.length c) (m : Nat) (hm : m ≤ fs.length) (nd : Nat) :
    St B ((w.drewN nd).setCell ⟨s, 0, none⟩ (.slice (some ⟨g, 0, none⟩) m m)) s (.slice (some ⟨g, 0, none⟩) m m) (fs.take m) ∧ Mods (fun k => k = s) w ((w.drewN nd).setCell ⟨s, 0, none⟩ (.slice (some ⟨g, 0, none⟩) m m)) := by
  obtain ⟨q1, q2, q3, q4, q5, q6, q7⟩ := h
  have km : Mods (fun i => i = s) w ((w.drewN nd).setCell ⟨s, 0, none⟩ (.slice (some ⟨g, 0, none⟩) m m)) := ((Mods.refl (fun i => i = s) w).drewN nd).setCell (p := ⟨s, 0, none⟩) (.inl rfl) _
  have hgs : some s ≠ v.ownBlock := q3.ne_type q1 (by decide)
  rw [hv] at hgs
  refine ⟨⟨?_, q2, ?_, ?_, ?_, by simp; omega, Nat.le_trans q7 km.size⟩, km⟩
  · have hs2 : (w.drewN nd).heap[s]? = some (.cells #[v] 116 (0, 0)) := q1
    rw [blk_set hs2 0 _]; simp
  · have := (q3.cut hv m hm).mods km (fun i hi => fun e => hgs (by rw [← e, ← hi]; rfl))
    have e : (fs.take m).length = m := by simp; omega
    rw [e]
    have ef : flat (fs.take m) = (flat fs).take (m * 2) := by
      conv => rhs; rw [← List.take_append_drop m fs, flat_append]
      rw [List.take_left' (by rw [flat_length, e])]
    rw [ef]
    exact this
  · intro f' hf'
    obtain ⟨hB, ⟨cur, h2, h3⟩, h4⟩ := q4 f' (List.mem_of_mem_take hf')
    exact FrOk.mods ⟨hB, ⟨cur, h2, h3⟩, h4⟩ km (fun e => blk_ne h2 q1 (by decide) e)
  · rw [List.map_take]
    exact q5.sublist (List.take_sublist _ _)
set_option maxHeartbeats 4000000 in
set_option maxRecDepth 100000 in
theorem unwind_calls (w : World) (B s : Nat) (v : Value) (fs : List Fr) (h : St B w s v fs) :
    Calls Try.prog 37 #[.pointer (some ⟨s, 0, none⟩)] w (UnwPost B s v fs w) := by
  have c0 := h.c0
  have f0 := h.f0
  have hl := h.2.2.2.2.2.1
  have H := Aside0.mk h
  obtain ⟨A, c, hv, hc⟩ := h.2.2.1.form
  have HV : Aside0 (∀ i, i < fs.length → ∃ g, A = some ⟨g, 0, none⟩) := ⟨fun i hi => by
    obtain ⟨g, c', hv', _⟩ := h.2.2.1.some_ (by omega)
    rw [hv] at hv'; injection hv' with hv' _ _
    exact ⟨g, hv'⟩⟩
  rw [hv] at c0
  have HVV := Aside0.mk hv
  clear h hv
  obtain ⟨R, hR⟩ : ∃ R, unwA fs fs.length = R := ⟨_, rfl⟩
  have HRR := Aside0.mk hR
  clear hR
  go_enter Try.func37, Try.ntmps37
  go_wp2
  go_step3
  go_wp2
  go_step3
  go_wp2
  go_loopg [5] (fs.length + 1) (fun k v5 wr => ∃ (m : Nat) (z : Int), v5 = .int .i64 z ∧ z = (m : Int) - 1 ∧ m ≤ fs.length ∧ k = m + 1 ∧ Aside0 (unwA fs m = R) ∧ ∃ nd, wr = w.drewN nd)
  case atStart => exact ⟨fs.length, _, rfl, by go_num, by omega, rfl, HRR, 0, rfl⟩
  case round =>
    obtain ⟨m, z, rfl, hz, hm, rfl, HU, nd, rfl⟩ := hrel
    cases m with
    | zero =>
      have b1 : ¬ (0 : Int) ≤ z := by omega
      have b2 : decide ((0 : Int) ≤ z) = false := decide_eq_false b1
      clear hz
      have HU0 : R = none := by rw [← HU.out]; rfl
      have HUN := Aside0.mk HU0
      clear HU0
      go_wp2_with fail
      go_ret3
      unfold UnwPost
      rw [HRR.out, HUN.out]
      exact ⟨by first | rfl | (simp; done), _, rfl⟩
    | succ i =>
      obtain rfl : z = (i : Int) := by omega
      clear hz
      have b1 : (i : Int) < (fs.length : Int) := by omega
      obtain ⟨g, rfl⟩ := HV.out i hm
      obtain ⟨c1, c2⟩ := St.frame H.out HVV.out i hm
      have HUS := Aside0.mk (unwA_succ fs i hm)
      have hfo := H.out.2.2.2.1 _ (List.getElem_mem hm)
      have HFC := Aside0.mk (fun j (hj : j < (fs[i]).y.length) => (show w.cell? ⟨(fs[i]).b, (fs[i]).o + j, none⟩ = some (.int .u64 ((fs[i]).y.getD j 0)) from by
        obtain ⟨_, ⟨cur, h2, h3, h4⟩, _⟩ := hfo
        rw [nums_cell h2 ((fs[i]).o + j) (by omega)]
        have : (fs[i]).y.getD j 0 = cur.getD ((fs[i]).o + j) 0 := by
          rw [← h4]
          simp [List.getD_eq_getElem?_getD, List.getElem?_take, hj]
        rw [this]))
      have HFB := Aside0.mk (fun j (hj : j < (fs[i]).y.length) => (show 0 ≤ (fs[i]).y.getD j 0 ∧ (fs[i]).y.getD j 0 < 18446744073709551616 from hfo.2.2.2.2 _ (by simp [List.getD_eq_getElem?_getD, hj])))
      have hyl : (fs[i]).y.length ≤ 12 := by have := hfo.2.2.1; have := hfo.2.2.2.1; omega
      clear hfo
      generalize (fs[i]).b = fb at c2 HFC
      generalize (fs[i]).o = fo at c2 HFC
      generalize (fs[i]).c = fc at c2
      generalize (fs[i]).back = fk at c1
      generalize (fs[i]).y = fy at c2 HUS HFC HFB hyl
      go_wp2_with fail
      go_loopg [30] (fy.length + 1) (fun q v30 wr => ∃ j : Nat, v30 = .int .i64 j ∧ j ≤ fy.length ∧ q = fy.length + 1 - j ∧ Aside0 (∀ k, k < j → isC (fy.getD k 0) = false) ∧ ∃ nd, wr = w.drewN nd)
      case atStart => exact ⟨0, rfl, by omega, rfl, ⟨fun k hk => by omega⟩, nd, rfl⟩
      case round =>
        obtain ⟨j, rfl, hj, rfl, HJ, nd2, rfl⟩ := hrel
        by_cases hlt : j < fy.length
        · have b3 : (j : Int) < (fy.length : Int) := by omega
          have hcell := HFC.out j hlt
          obtain ⟨x0, x1⟩ := HFB.out j hlt
          have HFA := Aside0.mk (find_at fy j hlt HJ.out)
          have HJN := Aside0.mk (fun (hx : isC (fy.getD j 0) = false) => (show ∀ k, k < j + 1 → isC (fy.getD k 0) = false from fun k hk => by
            rcases Nat.lt_or_ge k j with h | h
            · exact HJ.out k h
            · rw [show k = j by omega]; exact hx))
          generalize fy.getD j 0 = x at hcell x0 x1 HFA HJN
          have HC := Aside0.mk (isCatch_calls x (w.drewN nd2) x0 x1)
          clear x0 x1
          go_wp2_with fail
          refine HC.out.mono ?_
          rintro e w3 ⟨rfl, n3, rfl⟩
          cases hx : isC x with
          | true =>
            have HRS := Aside0.mk (show R = some (i, x) by
              rw [← HU.out, HUS.out, HFA.out hx])
            rw [show labelOf x = x / 16 by unfold labelOf; rw [hx]; rfl]
            have hcut := fun q => St.cut H.out HVV.out (i + 1) hm q
            have HCU := Aside0.mk hcut
            clear HC HFA HJN hx hcut c1 c2 hcell HU HUS HFC HFB HJ
            have q1 : (i : Int) + 1 ≤ (fs.length : Int) := by omega
            have q2 : (i : Int) + 1 ≤ (c : Int) := by omega
            go_wp2_with fail
            go_ret3
            unfold UnwPost
            rw [HRR.out, HRS.out]
            exact ⟨by first | rfl | (simp; done), _, (HCU.out _).1, by rw [HVV.out]; rfl, (HCU.out _).2⟩
          | false =>
            have HJ2 := Aside0.mk (HJN.out hx)
            clear HC HFA HJN hx
            go_wp2_with fail
            go_roundg (fy.length + 1 - (j + 1))
            case measure => omega
            case rel => exact ⟨j + 1, by go_num, by omega, rfl, HJ2, _, rfl⟩
        · have hje : j = fy.length := by omega
          subst hje
          have b3 : ¬ (fy.length : Int) < (fy.length : Int) := by omega
          have HU2 := Aside0.mk (show unwA fs i = R by
            have := HU.out
            rw [HUS.out, find_none fy HJ.out] at this
            exact this)
          clear HU
          go_wp2_with fail
          go_roundg (i + 1)
          case measure => omega
          case rel => exact ⟨i, _, rfl, by go_num, by omega, rfl, HU2, _, rfl⟩
end Go.Proofs.YthdmacdeefohkaaSUnwind
