/- StackUnwinds: a catch in one of many frames. The walk. -/
import Derived.Test.YthdmacdeefohkaaStkT
import Derived.Test.YthdmacdeefohkaaSUnwind
import Derived.Test.YthdmacdeefohkaaPlace
import Derived.WalkMore
namespace Go.Proofs.YthdmacdeefohkaaUnwLaw
open Go.RowKit Go.Proofs.YthdmacdeefohkaaW.PrintWords Go.Proofs.YthdmacdeefohkaaW.PrintLast Go.Proofs.YthdmacdeefohkaaW.PrintMore Go.Proofs.YthdmacdeefohkaaMem Go.Proofs.YthdmacdeefohkaaBits Go.Proofs Go.Proofs.YthdmacdeefohkaaStkT Go.Proofs.YthdmacdeefohkaaPl Go.Proofs.YthdmacdeefohkaaStk Go.Proofs.YthdmacdeefohkaaPush Go.Proofs.YthdmacdeefohkaaSUnwind
attribute [local go_sem] max2_int min2_int max_two min_two max_three min_three max_four min_four
set_option linter.unusedVariables false
set_option linter.unusedSimpArgs false
def cat (l : Int) : Int := l * 16 + 15
theorem cat_isC (l : Int) : isC (cat l) = true := by unfold isC cat; simp
theorem catch_calls (l : Int) (w : World) (h0 : 0 ≤ l) (h1 : l ≤ 1099511627776) : Calls Try.prog 36 #[.int .i64 l] w fun e w' => e = .returned (.int .u64 (cat l)) ∧ Below w.heap.size w w' := by
  refine Go.Proofs.Ythdmacdeefohkaa.PStackUnwinds.relictref10_Catch.calls l (cat l) w ?_
  have e1 : Go.Proofs.Ythdmacdeefohkaa.PStackUnwinds.relictref10_cut.f l = some l := by
    unfold Go.Proofs.Ythdmacdeefohkaa.PStackUnwinds.relictref10_cut.f mx mn
    congr 1
    (repeat' split) <;> omega
  unfold Go.Proofs.Ythdmacdeefohkaa.PStackUnwinds.relictref10_Catch.f
  rw [e1, bindS]
  congr 1
  simp only [wrap_u64]
  rw [or_join 4 _ 15 (by omega) (by omega) (by omega) (by omega) (by omega) (by omega)]
  unfold cat
  omega
/-- The last of the first m frames that has a catch; the catch. -/
def unwL (L : List (Int × List Int)) : Nat → Option (Nat × Int)
  | 0 => none
  | m + 1 => match ((L[m]?).map Prod.snd).getD [] |>.find? isC with
    | some x => some (m, x)
    | none => unwL L m
theorem ab_unw (fs : List Fr) : ∀ m, unwA fs m = unwL (ab fs) m := by
  intro m
  induction m with
  | zero => rfl
  | succ m ih => simp only [unwA, unwL, ih, ab, List.getElem?_map, Option.map_map]; rfl
def UnwT (w0 : World) (s : Nat) (L : List (Int × List Int)) (e : Ending) (w' : World) : Prop :=
  match unwL L L.length with
  | none => e = .returned (.tuple #[.int .i64 0, .int .i64 0, .bool false]) ∧ T w0 w' s L
  | some (i, x) => e = .returned (.tuple #[.int .i64 (x / 16), .int .i64 ((L.length : Int) - 1 - (i : Int)), .bool true]) ∧ T w0 w' s (L.take (i + 1))
theorem unwind_t {w0 w : World} {s : Nat} {L : List (Int × List Int)} (h : T w0 w s L) : Calls Try.prog 37 #[.pointer (some ⟨s, 0, none⟩)] w (UnwT w0 s L) := by
  have h' := h
  obtain ⟨⟨v, fs, rfl, hs⟩, hb⟩ := h
  refine (unwind_calls w w0.heap.size s v fs hs).mono ?_
  intro e w' hp
  unfold UnwPost at hp
  unfold UnwT
  rw [ab_length, ← ab_unw]
  rcases hu : unwA fs fs.length with _ | ⟨i, x⟩
  · rw [hu] at hp
    obtain ⟨rfl, nd, rfl⟩ := hp
    exact ⟨rfl, h'.drewN nd⟩
  · rw [hu] at hp
    obtain ⟨rfl, v', h1, _, h3⟩ := hp
    exact ⟨rfl, ⟨v', _, by simp [ab], h1⟩, below_mods hb h3 hb.size (fun i hi => (hs.foot_lt i (.inl hi)).1)⟩
def z5 : List Int := [0, 0, 0, 0, 0]
/-- The slots of the frame with the catch. -/
def yq (q l : Int) (two : Bool) : List Int := if two then setYL (setYL z5 q (cat l)) (q - 1) (cat (l + 1)) else setYL z5 q (cat l)
def Ls (i : Nat) (y : List Int) (k : Nat) : List (Int × List Int) := (List.range k).map fun (t : Nat) => ((t : Int), if t = i then y else z5)
theorem Ls_succ (i : Nat) (y : List Int) (k : Nat) : Ls i y (k + 1) = Ls i y k ++ [((k : Int), if k = i then y else z5)] := by simp [Ls, List.range_succ]
theorem Ls_length (i : Nat) (y : List Int) (k : Nat) : (Ls i y k).length = k := by simp [Ls]
theorem Ls_take (i : Nat) (y : List Int) (k m : Nat) (h : m ≤ k) : (Ls i y k).take m = Ls i y m := by
  unfold Ls; rw [← List.map_take, List.take_range, Nat.min_eq_left h]
theorem z5_none : z5.find? isC = none := by decide
theorem unwL_before (i : Nat) (y : List Int) (k : Nat) : ∀ m, m ≤ i → m ≤ k → unwL (Ls i y k) m = none := by
  intro m
  induction m with
  | zero => intro _ _; rfl
  | succ m ih =>
    intro h1 h2
    have : ((Ls i y k)[m]?).map Prod.snd = some z5 := by simp [Ls, show m < k by omega, show ¬ m = i by omega]
    simp only [unwL, this, Option.getD_some, z5_none]
    exact ih (by omega) (by omega)
theorem unwL_at (i : Nat) (y : List Int) (k : Nat) (x : Int) (hx : y.find? isC = some x) : ∀ m, i < m → m ≤ k → unwL (Ls i y k) m = some (i, x) := by
  intro m
  induction m with
  | zero => intro h; omega
  | succ m ih =>
    intro h1 h2
    by_cases hm : m = i
    · subst hm
      have : ((Ls m y k)[m]?).map Prod.snd = some y := by simp [Ls, show m < k by omega]
      simp only [unwL, this, Option.getD_some, hx]
    · have : ((Ls i y k)[m]?).map Prod.snd = some z5 := by simp [Ls, show m < k by omega, hm]
      simp only [unwL, this, Option.getD_some, z5_none]
      exact ih (by omega) (by omega)
theorem yq_find (q l : Int) (two : Bool) (h0 : 1 ≤ q) (h1 : q ≤ 3) : (yq q l two).find? isC = some (cat (if two then l + 1 else l)) := by
  have hz : isC 0 = false := by decide
  have hq : q = 1 ∨ q = 2 ∨ q = 3 := by omega
  rcases hq with rfl | rfl | rfl <;> cases two <;> simp [yq, setYL, z5, List.find?, cat_isC, hz]
theorem yq_len (q l : Int) (two : Bool) : (yq q l two).length = 5 := by
  unfold yq setYL z5; (repeat' split) <;> simp
set_option maxHeartbeats 8000000 in
set_option maxRecDepth 100000 in
theorem law_calls (n at_ y label : Int) (two : Bool) (w : World) :
    Calls Try.prog 6 #[.int .i64 n, .int .i64 at_, .int .i64 y, .int .i64 label, .bool two] w fun e w' => e = .returned (.bool true) ∧ Below w.heap.size w w' := by
  obtain ⟨k, hk⟩ : ∃ k : Nat, 1 + n % 30 = (k : Int) := ⟨(1 + n % 30).toNat, by omega⟩
  have hk1 : 1 ≤ k ∧ k ≤ 30 := by omega
  have hkn : n % 30 = (k : Int) - 1 := by omega
  obtain ⟨i, hi⟩ : ∃ i : Nat, at_ % (k : Int) = (i : Int) := ⟨(at_ % (k : Int)).toNat, by have := Int.emod_nonneg at_ (show (k : Int) ≠ 0 by omega); omega⟩
  have hik : i < k := by have := Int.emod_lt_of_pos at_ (show (0 : Int) < k by omega); omega
  obtain ⟨q, hq⟩ : ∃ q : Nat, 1 + y % 3 = (q : Int) := ⟨(1 + y % 3).toNat, by omega⟩
  have hq1 : 1 ≤ q ∧ q ≤ 3 := by omega
  have hqn : y % 3 = (q : Int) - 1 := by omega
  obtain ⟨l, hl⟩ : ∃ l : Nat, label % 1000 = (l : Int) := ⟨(label % 1000).toNat, by omega⟩
  have hl1 : 0 ≤ l ∧ l < 1000 := by omega
  have HKN := Aside0.mk hkn
  have HI := Aside0.mk hi
  have HQ := Aside0.mk hqn
  have HL := Aside0.mk hl
  obtain ⟨k1, k2⟩ := hk1
  obtain ⟨q1, q2⟩ := hq1
  obtain ⟨l1, l2⟩ := hl1
  clear hk hkn hi hq hqn hl
  go_enter Try.func6, Try.ntmps6
  go_wp2_with fail
  refine (place_calls n 30 _ (by omega) (by omega)).mono ?_
  rw [HKN.out]
  rintro e wa ⟨rfl, na, rfl⟩
  go_wp2_with fail
  rw [show (1 : Int) + ((k : Int) - 1) = (k : Int) from by omega]
  refine (place_calls at_ (k : Int) _ (by omega) (by omega)).mono ?_
  rw [HI.out]
  rintro e wa ⟨rfl, nb, rfl⟩
  go_wp2_with fail
  refine (place_calls y 3 _ (by omega) (by omega)).mono ?_
  rw [HQ.out]
  rintro e wa ⟨rfl, nc, rfl⟩
  go_wp2_with fail
  rw [show (1 : Int) + ((q : Int) - 1) = (q : Int) from by omega]
  refine (place_calls label 1000 _ (by omega) (by omega)).mono ?_
  rw [HL.out]
  rintro e wa ⟨rfl, nd, rfl⟩
  have hb0 : Below w.heap.size w (w.drewN (na + nb + nc + nd)) := pw_below_drewN (Below.refl _ _) _
  have HB0 := Aside0.mk hb0
  clear hb0
  go_wp2_with fail
  generalize w.drewN (na + nb + nc + nd) = w0 at HB0 ⊢
  refine (new_t w _ HB0.out).mono ?_
  rintro e w1 ⟨rfl, h1⟩
  have HT := Aside0.mk (show T w w1 w0.heap.size (Ls i (yq q l two) 0) from h1)
  clear h1
  generalize w0.heap.size = s at HT ⊢
  go_wp2_with fail
  go_loopg [16] (k + 1) (fun g v16 wr => ∃ j : Nat, v16 = .int .i64 j ∧ j ≤ k ∧ g = k + 1 - j ∧ Aside0 (T w wr s (Ls i (yq q l two) j)))
  case atStart => exact ⟨0, rfl, by omega, rfl, HT⟩
  case round =>
    clear HT
    obtain ⟨j, rfl, hj, rfl, HT⟩ := hrel
    by_cases hlt : j < k
    · have b1 : (j : Int) < (k : Int) := by omega
      have C := push_t (j : Int) 5 HT.out (by rw [Ls_length]; omega)
      rw [show List.replicate (pushN 5) (0 : Int) = z5 from by decide] at C
      have HC := Aside0.mk C
      clear C HT
      go_wp2_with fail
      refine HC.out.mono ?_
      rintro e w3 ⟨rfl, h1⟩
      have HT := Aside0.mk h1
      clear h1 HC
      by_cases hji : j = i
      · subst hji
        have HC := Aside0.mk (catch_calls (l : Int) w3 (by omega) (by omega))
        go_wp2_with fail
        refine HC.out.mono ?_
        rintro e w4 ⟨rfl, hb⟩
        have C := set_t (q : Int) (cat (l : Int)) (HT.out.then_ hb) (by unfold cat; omega) (by unfold cat; omega)
        rw [setL_last] at C
        have HC2 := Aside0.mk C
        clear C hb HC HT
        go_wp2_with fail
        refine HC2.out.mono ?_
        rintro e w5 ⟨rfl, h1⟩
        have HT := Aside0.mk h1
        clear h1 HC2
        cases two with
        | true =>
          have HC := Aside0.mk (catch_calls ((l : Int) + 1) w5 (by omega) (by omega))
          go_wp2_with fail
          refine HC.out.mono ?_
          rintro e w6 ⟨rfl, hb⟩
          have C := set_t ((q : Int) - 1) (cat ((l : Int) + 1)) (HT.out.then_ hb) (by unfold cat; omega) (by unfold cat; omega)
          rw [setL_last] at C
          have HC2 := Aside0.mk C
          clear C hb HC HT
          go_wp2_with fail
          refine HC2.out.mono ?_
          rintro e w7 ⟨rfl, h1⟩
          have HT := Aside0.mk (show T w w7 s (Ls j (yq q l true) (j + 1)) by rw [Ls_succ, if_pos rfl]; exact h1)
          clear h1 HC2
          go_wp2_with fail
          go_roundg (k + 1 - (j + 1))
          case measure => omega
          case rel => exact ⟨j + 1, by go_num, by omega, rfl, HT⟩
        | false =>
          have HT2 := Aside0.mk (show T w w5 s (Ls j (yq q l false) (j + 1)) by rw [Ls_succ, if_pos rfl]; exact HT.out)
          clear HT
          go_wp2_with fail
          go_roundg (k + 1 - (j + 1))
          case measure => omega
          case rel => exact ⟨j + 1, by go_num, by omega, rfl, HT2⟩
      · have b2 : ((j : Int) == (i : Int)) = false := by rw [beq_eq_false_iff_ne]; omega
        have b3 : ¬ (j : Int) = (i : Int) := by omega
        have HT2 := Aside0.mk (show T w w3 s (Ls i (yq q l two) (j + 1)) by rw [Ls_succ, if_neg hji]; exact HT.out)
        clear HT
        go_wp2_with fail
        go_roundg (k + 1 - (j + 1))
        case measure => omega
        case rel => exact ⟨j + 1, by go_num, by omega, rfl, HT2⟩
    · have hje : j = k := by omega
      subst hje
      have b1 : ¬ (j : Int) < (j : Int) := by omega
      have HF := Aside0.mk (unwL_at i (yq q l two) j _ (yq_find q l two (by omega) (by omega)) j hik (Nat.le_refl _))
      have HF0 := Aside0.mk (unwL_before i (yq q l two) i i (Nat.le_refl _) (Nat.le_refl _))
      have HC := Aside0.mk (unwind_t HT.out)
      cases two with
      | true =>
        go_wp2_with fail
        refine HC.out.mono ?_
        intro e w2 hp
        unfold UnwT at hp
        rw [Ls_length, HF.out] at hp
        have he : cat ((l : Int) + 1) / 16 = ((l : Int) + 1) := by unfold cat; omega
        simp only [if_true, if_false, Bool.false_eq_true, he, Ls_take _ _ _ _ (show i + 1 ≤ j from hik)] at hp
        obtain ⟨rfl, h1⟩ := hp
        clear he
        have C := depth_t h1
        rw [Ls_length] at C
        have HC := Aside0.mk C
        clear C h1 HT HF
        have b2 : ((j : Int) - 1 - (i : Int) != (j : Int) - 1 - (i : Int)) = false := by simp
        have b3 : (((l : Int) + 1) != ((l : Int) + 1)) = false := by simp
        go_wp2_with fail
        refine HC.out.mono ?_
        rintro e w3 ⟨rfl, h1⟩
        have C := back_t h1
        rw [Ls_succ, backL_last] at C
        have HC := Aside0.mk C
        clear C h1
        have b4 : (((i + 1 : Nat) : Int) != (i : Int) + 1) = false := by simp
        go_wp2_with fail
        refine HC.out.mono ?_
        rintro e w4 ⟨rfl, h1⟩
        have C := pop_t h1
        rw [backL_last, List.dropLast_concat] at C
        have HC := Aside0.mk C
        clear C h1
        have b5 : ((i : Int) != (i : Int)) = false := by simp
        go_wp2_with fail
        refine HC.out.mono ?_
        rintro e w5 ⟨rfl, h1⟩
        have HC := Aside0.mk (unwind_t h1)
        clear h1
        go_wp2_with fail
        refine HC.out.mono ?_
        intro e w6 hp
        unfold UnwT at hp
        rw [Ls_length, HF0.out] at hp
        obtain ⟨rfl, h1⟩ := hp
        have C := depth_t h1
        rw [Ls_length] at C
        have HC := Aside0.mk C
        clear C h1
        go_wp2_with fail
        refine HC.out.mono ?_
        rintro e w7 ⟨rfl, h1⟩
        have HB := Aside0.mk h1.2
        have HC := Aside0.mk (awake_calls w7)
        clear h1
        go_wp2_with fail
        refine HC.out.mono ?_
        rintro e w8 ⟨rfl, hb⟩
        have HB2 := Aside0.mk (below_step HB.out hb)
        clear hb
        go_wp2_with fail
        go_ret
        exact ⟨rfl, HB2.out⟩
      | false =>
        go_wp2_with fail
        refine HC.out.mono ?_
        intro e w2 hp
        unfold UnwT at hp
        rw [Ls_length, HF.out] at hp
        have he : cat (l : Int) / 16 = (l : Int) := by unfold cat; omega
        simp only [if_true, if_false, Bool.false_eq_true, he, Ls_take _ _ _ _ (show i + 1 ≤ j from hik)] at hp
        obtain ⟨rfl, h1⟩ := hp
        clear he
        have C := depth_t h1
        rw [Ls_length] at C
        have HC := Aside0.mk C
        clear C h1 HT HF
        have b2 : ((j : Int) - 1 - (i : Int) != (j : Int) - 1 - (i : Int)) = false := by simp
        have b3 : ((l : Int) != (l : Int)) = false := by simp
        go_wp2_with fail
        refine HC.out.mono ?_
        rintro e w3 ⟨rfl, h1⟩
        have C := back_t h1
        rw [Ls_succ, backL_last] at C
        have HC := Aside0.mk C
        clear C h1
        have b4 : (((i + 1 : Nat) : Int) != (i : Int) + 1) = false := by simp
        go_wp2_with fail
        refine HC.out.mono ?_
        rintro e w4 ⟨rfl, h1⟩
        have C := pop_t h1
        rw [backL_last, List.dropLast_concat] at C
        have HC := Aside0.mk C
        clear C h1
        have b5 : ((i : Int) != (i : Int)) = false := by simp
        go_wp2_with fail
        refine HC.out.mono ?_
        rintro e w5 ⟨rfl, h1⟩
        have HC := Aside0.mk (unwind_t h1)
        clear h1
        go_wp2_with fail
        refine HC.out.mono ?_
        intro e w6 hp
        unfold UnwT at hp
        rw [Ls_length, HF0.out] at hp
        obtain ⟨rfl, h1⟩ := hp
        have C := depth_t h1
        rw [Ls_length] at C
        have HC := Aside0.mk C
        clear C h1
        go_wp2_with fail
        refine HC.out.mono ?_
        rintro e w7 ⟨rfl, h1⟩
        have HB := Aside0.mk h1.2
        have HC := Aside0.mk (awake_calls w7)
        clear h1
        go_wp2_with fail
        refine HC.out.mono ?_
        rintro e w8 ⟨rfl, hb⟩
        have HB2 := Aside0.mk (below_step HB.out hb)
        clear hb
        go_wp2_with fail
        go_ret
        exact ⟨rfl, HB2.out⟩
end Go.Proofs.YthdmacdeefohkaaUnwLaw
