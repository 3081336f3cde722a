/- StackFrames: frames come off as they were put on; what is put into one stays, whatever is put on top. The walk. -/
import Derived.Test.YthdmacdeefohkaaStkT
import Derived.Test.YthdmacdeefohkaaPlace
import Derived.Test.YthdmacdeefohkaaPStackFramesx1
import Derived.WalkMore
namespace Go.Proofs.YthdmacdeefohkaaFrames
open Go.RowKit Go.Proofs.YthdmacdeefohkaaW.PrintWords Go.Proofs.YthdmacdeefohkaaW.PrintLast Go.Proofs.YthdmacdeefohkaaW.PrintMore Go.Proofs.YthdmacdeefohkaaMem Go.Proofs.YthdmacdeefohkaaBits Go.Proofs Go.Proofs.YthdmacdeefohkaaStkT Go.Proofs.YthdmacdeefohkaaPl Go.Proofs.YthdmacdeefohkaaStk Go.Proofs.YthdmacdeefohkaaPush
attribute [local go_sem] max2_int min2_int max_two min_two max_three min_three max_four min_four
set_option linter.unusedVariables false
set_option linter.unusedSimpArgs false
/-- A number that is small, as a word. -/
def sm (v : Int) : Int := Go.bits .or .u64 (IntKind.u64.wrap ((IntKind.u64.wrap (mn (mx v (-576460752303423488)) 576460752303423487)) * 16)) 3
theorem sm_bound (v : Int) : 0 ≤ sm v ∧ sm v < 18446744073709551616 := by
  unfold sm
  generalize mn (mx v (-576460752303423488)) 576460752303423487 = m
  simp only [wrap_u64]
  rw [or_join 4 _ 3 (by omega) (by omega) (by omega) (by omega) (by omega) (by omega)]
  omega
theorem small_calls (v : Int) (w : World) : Calls Try.prog 19 #[.int .i64 v] w fun e w' => e = .returned (.int .u64 (sm v)) ∧ Below w.heap.size w w' :=
  Go.Proofs.Ythdmacdeefohkaa.PStackFrames.relictref10_Small.calls v (sm v) w rfl
/-- Frame j of list xs: as many slots as its number says, the first m of them filled. -/
def slot (j m : Nat) (y : Nat) : Int := if y < m then sm (100 * (j : Int) + y) else 0
def part (j k m : Nat) : List Int := (List.range k).map (slot j m)
def kk (xs : List Int) (j : Nat) : Nat := (xs.getD j 0 % 9).toNat
def fr (xs : List Int) (j : Nat) : Int × List Int := ((j : Int), part j (kk xs j) (kk xs j))
def Fs (xs : List Int) (i : Nat) : List (Int × List Int) := (List.range i).map (fr xs)
theorem Fs_succ (xs : List Int) (i : Nat) : Fs xs (i + 1) = Fs xs i ++ [fr xs i] := by simp [Fs, List.range_succ]
theorem Fs_length (xs : List Int) (i : Nat) : (Fs xs i).length = i := by simp [Fs]
theorem kk_lt (xs : List Int) (j : Nat) : kk xs j < 9 := by unfold kk; omega
theorem kk_eq (xs : List Int) (j : Nat) : xs.getD j 0 % 9 = (kk xs j : Nat) := by unfold kk; omega
theorem part_length (j k m : Nat) : (part j k m).length = k := by simp [part]
theorem part_zero (j k : Nat) : part j k 0 = List.replicate k 0 := by
  apply List.ext_getElem
  · simp [part]
  · intro n h1 h2; simp [part, slot]
theorem part_set (j k m : Nat) (h : m < k) : setYL (part j k m) (m : Int) (sm (100 * (j : Int) + m)) = part j k (m + 1) := by
  unfold setYL
  rw [if_pos (by rw [part_length]; omega), Int.toNat_natCast]
  apply List.ext_getElem
  · simp [part]
  · intro n h1 h2
    rw [List.getElem_set]
    simp only [part, List.getElem_map, List.getElem_range, slot]
    split
    · subst_vars; rw [if_pos (by omega)]
    · (repeat' split) <;> first | rfl | omega
theorem part_get (j k m y : Nat) (hy : y < k) (hm : y < m) : (part j k m).getD y 0 = sm (100 * (j : Int) + y) := by
  simp [part, List.getD_eq_getElem?_getD, hy, slot, hm]
theorem slot_part (xs : List Int) (L : List (Int × List Int)) (j y : Nat) (hy : y < kk xs j) : slotL (L ++ [fr xs j]) (y : Int) = sm (100 * (j : Int) + y) := by
  rw [slotL_last]
  unfold fr
  simp only
  rw [if_pos (by rw [part_length]; omega), Int.toNat_natCast, part_get _ _ _ _ hy hy]
theorem slot_part' (L : List (Int × List Int)) (p k y : Nat) (hy : y < k) : slotL (L ++ [((p : Int), part p k k)]) (y : Int) = sm (100 * (p : Int) + y) := by
  rw [slotL_last]
  simp only
  rw [if_pos (by rw [part_length]; omega), Int.toNat_natCast, part_get _ _ _ _ hy hy]
theorem pushN_kk (xs : List Int) (j : Nat) : pushN (kk xs j : Int) = kk xs j := by
  have := kk_lt xs j
  unfold pushN; (repeat' split) <;> omega
set_option maxHeartbeats 8000000 in
set_option maxRecDepth 100000 in
theorem law_calls (a : Option Addr) (len cap : Nat) (xs : List Int) (w : World) (hr : InRow .i64 w a len cap xs) :
    Calls Try.prog 3 #[.slice a len cap] w fun e w' => e = .returned (.bool true) ∧ Below w.heap.size w w' := by
  have HR := Aside0.mk hr
  clear hr
  obtain ⟨n, hn⟩ : ∃ n : Nat, (if (len : Int) < 60 then (len : Int) else 60) = (n : Int) := ⟨min len 60, by split <;> omega⟩
  have hn60 : n ≤ 60 := by split at hn <;> omega
  have hnl : n ≤ len := by split at hn <;> omega
  have hn2 : (if (60 : Int) < (len : Int) then (60 : Int) else (len : Int)) = (n : Int) := by split at hn <;> split <;> omega
  go_enter Try.func3, Try.ntmps3
  go_wp2_with fail
  refine (new_t w _ (Below.refl _ _)).mono ?_
  rintro e w1 ⟨rfl, h1⟩
  have HT := Aside0.mk h1
  clear h1
  generalize w.heap.size = s at HT ⊢
  go_wp2_with fail
  go_loopg [5] (n + 1) (fun k v5 wr => ∃ i : Nat, v5 = .int .i64 i ∧ i ≤ n ∧ k = n + 1 - i ∧ Aside0 (T w wr s (Fs xs i)))
  case atStart => exact ⟨0, rfl, by omega, rfl, HT⟩
  case round =>
    clear HT
    obtain ⟨i, rfl, hi, rfl, HT⟩ := hrel
    by_cases hlt : i < n
    · obtain ⟨ad, ea, hc⟩ := HR.out.1.at_ (i : Int) (by omega) (by omega)
      subst ea
      rw [Int.toNat_natCast] at hc
      have hcw : wr.cell? (ad.add i) = some (.int .i64 (xs.getD i 0)) := (HT.out.2.cell (World.block_lt_of_cell? w _ hc)).trans hc
      clear hc
      have b1 : (i : Int) < (n : Int) := by omega
      have b2 : (i : Int) < (len : Int) := by omega
      have HK := Aside0.mk (kk_eq xs i)
      have hk9 := kk_lt xs i
      have HPN := Aside0.mk (pushN_kk xs i)
      obtain ⟨k, hk⟩ : ∃ k, kk xs i = k := ⟨_, rfl⟩
      rw [hk] at HK hk9 HPN
      have HKK := Aside0.mk hk
      clear hk
      generalize xs.getD i 0 = x at hcw HK
      go_wp2_with fail
      refine (place_calls x 9 _ (by omega) (by omega)).mono ?_
      rw [HK.out]
      rintro e w2 ⟨rfl, n2, rfl⟩
      have C := push_t (i : Int) (k : Int) (HT.out.drewN n2) (by rw [Fs_length]; omega)
      rw [HPN.out] at C
      have HC := Aside0.mk C
      clear C HT
      go_wp2_with fail
      refine HC.out.mono ?_
      rintro e w3 ⟨rfl, h1⟩
      clear HC
      have C := slots_t h1
      rw [slotsL_last] at C
      simp only [List.length_replicate] at C
      have HC := Aside0.mk C
      clear C h1
      go_wp2_with fail
      refine HC.out.mono ?_
      rintro e w4 ⟨rfl, h1⟩
      clear HC
      rw [← part_zero i k] at h1
      have HT := Aside0.mk h1
      clear h1
      have kb : ((k : Int) != (k : Int)) = false := by simp
      go_wp2_with fail
      go_loopg [7] (k + 1) (fun q v7 wr => ∃ y : Nat, v7 = .int .i64 y ∧ y ≤ k ∧ q = k + 1 - y ∧ Aside0 (T w wr s (Fs xs i ++ [((i : Int), part i k y)])))
      case atStart => exact ⟨0, rfl, by omega, rfl, HT⟩
      case round =>
        clear HT
        obtain ⟨y, rfl, hy, rfl, HT⟩ := hrel
        by_cases hylt : y < k
        · have b3 : (y : Int) < (k : Int) := by omega
          have HSM := Aside0.mk (small_calls (100 * (i : Int) + y) wr)
          go_wp2_with fail
          refine HSM.out.mono ?_
          rintro e w5 ⟨rfl, hb⟩
          have C := set_t (y : Int) (sm (100 * (i : Int) + y)) (HT.out.then_ hb) (sm_bound _).1 (sm_bound _).2
          rw [setL_last, part_set i k y hylt] at C
          have HC := Aside0.mk C
          clear C hb HT HSM
          go_wp2_with fail
          refine HC.out.mono ?_
          rintro e w6 ⟨rfl, h1⟩
          have HT := Aside0.mk h1
          clear h1 HC
          go_wp2_with fail
          go_roundg (k + 1 - (y + 1))
          case measure => omega
          case rel => exact ⟨y + 1, by go_num, by omega, rfl, HT⟩
        · have hye : y = k := by omega
          subst hye
          have b3 : ¬ (y : Int) < (y : Int) := by omega
          have HT2 := Aside0.mk (show T w wr s (Fs xs (i + 1)) by rw [Fs_succ, fr, HKK.out]; exact HT.out)
          clear HT
          go_wp2_with fail
          go_roundg (n + 1 - (i + 1))
          case measure => omega
          case rel => exact ⟨i + 1, by go_num, by omega, rfl, HT2⟩
    · have hie : i = n := by omega
      subst hie
      have b1 : ¬ (i : Int) < (i : Int) := by omega
      go_wp2_with fail
      go_loopg [8] (i + 1) (fun q v8 wr => ∃ (m : Nat) (z : Int), v8 = .int .i64 z ∧ z = (m : Int) - 1 ∧ m ≤ i ∧ q = m + 1 ∧ Aside0 (T w wr s (Fs xs m)))
      case atStart => exact ⟨i, _, rfl, by go_num, by omega, rfl, HT⟩
      case round =>
        clear HT
        obtain ⟨m, z, rfl, hz, hm, rfl, HT⟩ := hrel
        cases m with
        | zero =>
          have b3 : ¬ (0 : Int) ≤ z := by omega
          have b4 : decide ((0 : Int) ≤ z) = false := decide_eq_false b3
          clear hz
          have C := depth_t HT.out
          have HC := Aside0.mk (show _ from C)
          clear C HT
          go_wp2_with fail
          refine HC.out.mono ?_
          rintro e w5 ⟨rfl, h1⟩
          have HC := Aside0.mk (words_t h1)
          clear h1
          go_wp2_with fail
          refine HC.out.mono ?_
          rintro e w6 ⟨rfl, h1⟩
          have HT := Aside0.mk h1
          clear h1
          go_wp2_with fail
          refine (awake_calls w6).mono ?_
          rintro e w7 ⟨rfl, hb⟩
          have HB := Aside0.mk ((HT.out.then_ hb).2)
          clear hb
          go_wp2_with fail
          go_ret
          exact ⟨by first | rfl | (simp; done), HB.out⟩
        | succ p =>
          obtain rfl : z = (p : Int) := by omega
          clear hz
          obtain ⟨ad, ea, hc⟩ := HR.out.1.at_ (p : Int) (by omega) (by omega)
          subst ea
          rw [Int.toNat_natCast] at hc
          have hcw : wr.cell? (ad.add p) = some (.int .i64 (xs.getD p 0)) := (HT.out.2.cell (World.block_lt_of_cell? w _ hc)).trans hc
          clear hc
          have b1 : (p : Int) < (len : Int) := by omega
          have HK := Aside0.mk (kk_eq xs p)
          have hk9 := kk_lt xs p
          obtain ⟨k, hk⟩ : ∃ k, kk xs p = k := ⟨_, rfl⟩
          rw [hk] at HK hk9
          have h1 := HT.out
          rw [Fs_succ, show fr xs p = ((p : Int), part p k k) by rw [fr, hk]] at h1
          clear HT hk
          have HT := Aside0.mk h1
          clear h1
          generalize xs.getD p 0 = x at hcw HK
          go_wp2_with fail
          refine (place_calls x 9 _ (by omega) (by omega)).mono ?_
          rw [HK.out]
          rintro e w2 ⟨rfl, n2, rfl⟩
          have C := depth_t (HT.out.drewN n2)
          rw [List.length_append, Fs_length, List.length_singleton, show ((p + 1 : Nat) : Int) = (p : Int) + 1 from rfl] at C
          have HC := Aside0.mk C
          clear C HT
          have q1 : ((p : Int) + 1 != (p : Int) + 1) = false := by simp
          have q2 : ((p : Int) != (p : Int)) = false := by simp
          have q3 : ((k : Int) != (k : Int)) = false := by simp
          go_wp2_with fail
          refine HC.out.mono ?_
          rintro e w3 ⟨rfl, h1⟩
          clear HC
          have C := back_t h1
          rw [backL_last] at C
          have HC := Aside0.mk C
          clear C h1
          go_wp2_with fail
          refine HC.out.mono ?_
          rintro e w4 ⟨rfl, h1⟩
          clear HC
          have C := slots_t h1
          rw [slotsL_last] at C
          simp only [part_length] at C
          have HC := Aside0.mk C
          clear C h1
          go_wp2_with fail
          refine HC.out.mono ?_
          rintro e w5 ⟨rfl, h1⟩
          have HT := Aside0.mk h1
          clear h1 HC
          go_wp2_with fail
          go_loopg [10] (k + 1) (fun q v10 wr => ∃ y : Nat, v10 = .int .i64 y ∧ y ≤ k ∧ q = k + 1 - y ∧ Aside0 (T w wr s (Fs xs p ++ [((p : Int), part p k k)])))
          case atStart => exact ⟨0, rfl, by omega, rfl, HT⟩
          case round =>
            clear HT
            obtain ⟨y, rfl, hy, rfl, HT⟩ := hrel
            by_cases hylt : y < k
            · have b3 : (y : Int) < (k : Int) := by omega
              have C := slot_t (y : Int) HT.out
              rw [slot_part' _ _ _ _ hylt] at C
              have HC := Aside0.mk C
              clear C HT
              have q4 : (sm (100 * (p : Int) + y) != sm (100 * (p : Int) + y)) = false := by simp
              go_wp2_with fail
              refine HC.out.mono ?_
              rintro e w6 ⟨rfl, h1⟩
              have HT := Aside0.mk h1
              have HSM := Aside0.mk (small_calls (100 * (p : Int) + y) w6)
              clear h1 HC
              go_wp2_with fail
              refine HSM.out.mono ?_
              rintro e w7 ⟨rfl, hb⟩
              have HT2 := Aside0.mk (HT.out.then_ hb)
              clear hb HT HSM
              go_wp2_with fail
              go_roundg (k + 1 - (y + 1))
              case measure => omega
              case rel => exact ⟨y + 1, by go_num, by omega, rfl, HT2⟩
            · have hye : y = k := by omega
              subst hye
              have b3 : ¬ (y : Int) < (y : Int) := by omega
              have C := pop_t HT.out
              rw [backL_last, List.dropLast_concat] at C
              have HC := Aside0.mk C
              clear C HT
              go_wp2_with fail
              refine HC.out.mono ?_
              rintro e w6 ⟨rfl, h1⟩
              have HT := Aside0.mk h1
              clear h1 HC
              go_wp2_with fail
              go_roundg (p + 1)
              case measure => omega
              case rel => exact ⟨p, _, rfl, by go_num, by omega, rfl, HT⟩
end Go.Proofs.YthdmacdeefohkaaFrames
