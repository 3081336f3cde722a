/- StackRoots: roots taken and put back. The walk. -/
import Derived.Test.YthdmacdeefohkaaStkB
import Derived.Test.YthdmacdeefohkaaPlace
import Derived.Test.YthdmacdeefohkaaSame
import Derived.WalkMore
import Derived.Deep.DeepCutAuto
namespace Go.Proofs.YthdmacdeefohkaaSRootsLaw
open Go.RowKit Go.Proofs.YthdmacdeefohkaaW.PrintWords Go.Proofs.YthdmacdeefohkaaW.PrintLast Go.Proofs.YthdmacdeefohkaaW.PrintMore Go.Proofs.YthdmacdeefohkaaMem Go.Proofs.YthdmacdeefohkaaBits Go.Proofs Go.Proofs.YthdmacdeefohkaaRow Go.Proofs.YthdmacdeefohkaaRowK Go.Proofs.YthdmacdeefohkaaStkT Go.Proofs.YthdmacdeefohkaaStkB Go.Proofs.YthdmacdeefohkaaPl Go.Proofs.YthdmacdeefohkaaStk Go.Proofs.YthdmacdeefohkaaPush Go.Proofs.YthdmacdeefohkaaSLoad Go.Proofs.YthdmacdeefohkaaSame
attribute [local go_sem] max2_int min2_int max_two min_two max_three min_three max_four min_four
set_option linter.unusedVariables false
set_option linter.unusedSimpArgs false
def kk (xs : List Int) (j : Nat) : Nat := (xs.getD j 0 % 6).toNat
def cnt (xs : List Int) (i : Nat) : Nat := ((List.range i).map (kk xs)).sum
def part (ws : List Int) (n0 k m : Nat) : List Int := (List.range k).map fun t => if t < m then ws.getD (n0 + t) 0 else 0
def fr (xs ws : List Int) (j : Nat) : Int × List Int := ((j : Int), part ws (cnt xs j) (kk xs j) (kk xs j))
def Fs (xs ws : List Int) (i : Nat) : List (Int × List Int) := (List.range i).map (fr xs ws)
def vals (ws : List Int) (n : Nat) : List Int := (List.range n).map fun t => ws.getD t 0
theorem Fs_succ (xs ws : List Int) (i : Nat) : Fs xs ws (i + 1) = Fs xs ws i ++ [fr xs ws i] := by simp [Fs, List.range_succ]
theorem Fs_length (xs ws : List Int) (i : Nat) : (Fs xs ws i).length = i := by simp [Fs]
theorem kk_lt (xs : List Int) (j : Nat) : kk xs j < 6 := by unfold kk; omega
theorem kk_eq (xs : List Int) (j : Nat) : xs.getD j 0 % 6 = (kk xs j : Nat) := by unfold kk; omega
theorem cnt_succ (xs : List Int) (i : Nat) : cnt xs (i + 1) = cnt xs i + kk xs i := by simp [cnt, List.range_succ]
theorem cnt_le (xs : List Int) (i : Nat) : cnt xs i ≤ 5 * i := by
  induction i with
  | zero => simp [cnt]
  | succ i ih => rw [cnt_succ]; have := kk_lt xs i; omega
theorem part_length (ws : List Int) (n0 k m : Nat) : (part ws n0 k m).length = k := by simp [part]
theorem part_zero (ws : List Int) (n0 k : Nat) : part ws n0 k 0 = List.replicate k 0 := by
  apply List.ext_getElem
  · simp [part]
  · intro n h1 h2; simp [part]
theorem part_set (ws : List Int) (n0 k m : Nat) (h : m < k) : setYL (part ws n0 k m) (m : Int) (ws.getD (n0 + m) 0) = part ws n0 k (m + 1) := by
  unfold setYL
  rw [if_pos (by rw [part_length]; omega), Int.toNat_natCast]
  apply List.ext_getElem
  · simp [part]
  · intro n h1 h2
    rw [List.getElem_set]
    simp only [part, List.getElem_map, List.getElem_range]
    split
    · subst_vars; rw [if_pos (by omega)]
    · (repeat' split) <;> first | rfl | omega
theorem part_out (ws : List Int) (n0 k m : Nat) (h : ws.length ≤ n0 + m) : part ws n0 k m = part ws n0 k (m + 1) := by
  apply List.map_congr_left
  intro t _
  by_cases h1 : t < m
  · rw [if_pos h1, if_pos (by omega)]
  · rw [if_neg h1]
    split
    · rw [show t = m by omega]; simp [List.getD_eq_getElem?_getD, List.getElem?_eq_none h]
    · rfl
theorem vals_length (ws : List Int) (n : Nat) : (vals ws n).length = n := by simp [vals]
theorem vals_add (ws : List Int) (n k : Nat) : vals ws (n + k) = vals ws n ++ part ws n k k := by
  unfold vals part
  rw [List.range_add, List.map_append, List.map_map]
  congr 1
  apply List.map_congr_left
  intro t ht
  simp at ht
  simp [ht]
theorem Fs_flat (xs ws : List Int) (i : Nat) : flatL (Fs xs ws i) = vals ws (cnt xs i) := by
  induction i with
  | zero => rfl
  | succ i ih => rw [Fs_succ, flatL_append, ih, cnt_succ, vals_add]; simp [flatL, fr]
theorem Fs_sum (xs ws : List Int) (i : Nat) : sumL (Fs xs ws i) = cnt xs i := by rw [← flatL_length, Fs_flat, vals_length]
theorem vals_get (ws : List Int) (n t : Nat) (h : t < n) : (vals ws n).getD t 0 = ws.getD t 0 := by simp [vals, List.getD_eq_getElem?_getD, h]
theorem vals_w (ws : List Int) (n : Nat) (h : W64 ws) : W64 (vals ws n) := by
  intro x hx
  simp only [vals, List.mem_map] at hx
  obtain ⟨t, _, rfl⟩ := hx
  rw [List.getD_eq_getElem?_getD]
  rcases hq : ws[t]? with _ | y
  · simp
  · exact h y (List.mem_of_getElem? hq)
/-- The numbers from m on, the last one first. -/
def rev (ws : List Int) (n m : Nat) : List Int := ((vals ws n).drop m).reverse
theorem rev_all (ws : List Int) (n : Nat) : rev ws n n = [] := by
  unfold rev; rw [List.drop_eq_nil_of_le (by rw [vals_length]; exact Nat.le_refl _)]; rfl
theorem rev_step (ws : List Int) (n m : Nat) (h : m < n) : rev ws n m = rev ws n (m + 1) ++ [ws.getD m 0] := by
  unfold rev
  rw [List.drop_eq_getElem_cons (by rw [vals_length]; exact h)]
  simp [vals]
theorem rev_length (ws : List Int) (n m : Nat) : (rev ws n m).length = n - m := by simp [rev, vals_length]
theorem rev_w (ws : List Int) (n m : Nat) (h : W64 ws) : W64 (rev ws n m) := fun x hx => vals_w ws n h x (List.mem_of_mem_drop (List.mem_reverse.1 hx))
theorem pushN_kk (xs : List Int) (j : Nat) : pushN (kk xs j : Int) = kk xs j := by
  have := kk_lt xs j
  unfold pushN; (repeat' split) <;> omega
/-- A stack beside a row that grows. -/
theorem TB.grown {w0 w w' : World} {s N n : Nat} {L : List (Int × List Int)} {v : Value} {xs : List Value} (h : TB w0 w s L N) (hN : w0.heap.size ≤ N) (hr : Row w N 29 1 v n xs) (hg : w.grownBy w' v.ownBlock) : TB w0 w' s L N := by
  obtain ⟨⟨u, fs, h1, h2, h3⟩, hb⟩ := h
  have km := Mods.of_grown hg
  refine ⟨⟨u, fs, h1, h2.mods km ?_, h3⟩, below_mods hb km hb.size (fun i hi => Nat.le_trans hN (hr.base_ i hi.symm).1)⟩
  intro i hi
  rcases hi with rfl | hi | hi
  · exact hr.ne_type h2.1 (by decide)
  · intro e
    rcases Nat.eq_zero_or_pos n with h0 | h0
    · rcases hr.2 with ⟨rfl, _⟩ | ⟨g, cap, cur, rfl, _, hg2, _⟩
      · simp [Value.ownBlock] at e
      · have e' : i = g := by simpa [Value.ownBlock] using e
        subst e'
        exact h2.2.2.1.ne_type hg2 (by decide) hi
    · obtain ⟨g, c, rfl, _, _, cur, hg2, _⟩ := hr.some_ h0
      have e' : i = g := by simpa [Value.ownBlock] using e
      subst e'
      exact h2.2.2.1.ne_type hg2 (by decide) hi
  · intro e
    obtain ⟨f, hf, rfl⟩ := List.mem_map.1 hi
    have := h3 f hf
    have := (hr.base_ _ e.symm).1
    omega
theorem words_b {w0 w : World} {s : Nat} {L : List (Int × List Int)} (h : T w0 w s L) : Calls Try.prog 24 #[.pointer (some ⟨s, 0, none⟩)] w fun e w' => e = .returned (.int .i64 ((L.length + sumL L : Nat) : Int)) ∧ Below w.heap.size w w' := by
  obtain ⟨⟨v, fs, rfl, hs⟩, hb⟩ := h
  refine (Go.Proofs.YthdmacdeefohkaaSWords.words_calls w w0.heap.size s v fs hs).mono ?_
  rintro e w' ⟨rfl, k⟩
  exact ⟨by rw [ab_sum, ab_length], k⟩
theorem reads_take {w : World} {k : IntKind} {A : Option Addr} {n : Nat} {xs : List Int} (h : ReadsInt w k A n xs) (m : Nat) (hm : m ≤ n) : ReadsInt w k A m (xs.take m) := by
  refine ⟨by rw [List.length_take, h.1]; omega, Nat.le_trans hm h.2.1, fun h0 => ?_⟩
  obtain ⟨ad, ea, hc⟩ := h.2.2 (by omega)
  refine ⟨ad, ea, fun j hj => ?_⟩
  rw [hc j (by omega)]
  simp [List.getD_eq_getElem?_getD, List.getElem?_take, hj]
set_option maxHeartbeats 8000000 in
set_option maxRecDepth 100000 in
theorem law_calls (a : Option Addr) (len cap : Nat) (xs : List Int) (b : Option Addr) (lenw capw : Nat) (ws : List Int) (w : World) (hr : InRow .i64 w a len cap xs) (hr2 : InRow .u64 w b lenw capw ws) (hw : W64 ws) :
    Calls Try.prog 4 #[.slice a len cap, .slice b lenw capw] w fun e w' => e = .returned (.bool true) ∧ Below w.heap.size w w' := by
  have HR := Aside0.mk hr
  have HR2 := Aside0.mk hr2
  have HWW := Aside0.mk hw
  have hwl : ws.length = lenw := hr2.1.1
  have HWL := Aside0.mk hwl
  clear hr hr2 hw hwl
  obtain ⟨p, hp⟩ : ∃ p : Nat, (if (len : Int) < 30 then (len : Int) else 30) = (p : Int) := ⟨min len 30, by split <;> omega⟩
  have hp30 : p ≤ 30 := by split at hp <;> omega
  have hpl : p ≤ len := by split at hp <;> omega
  have hp2 : (if (30 : Int) < (len : Int) then (30 : Int) else (len : Int)) = (p : Int) := by split at hp <;> split <;> omega
  have hpe : p = len ∨ p = 30 := by split at hp <;> omega
  go_enter Try.func4, Try.ntmps4
  go_wp2_with fail
  refine (new_t w _ (Below.refl _ _)).mono ?_
  rintro e w1 ⟨rfl, h1⟩
  have HT := Aside0.mk h1
  clear h1
  generalize w.heap.size = s at HT ⊢
  by_cases hbig : lenw ≤ 300
  case neg =>
    have b1 : decide ((300 : Int) < (lenw : Int)) = true := decide_eq_true (by omega)
    have b2 : (300 : Int) < (lenw : Int) := by omega
    go_wp2_with fail
    refine (awake_calls w1).mono ?_
    rintro e w2 ⟨rfl, hb⟩
    have HB := Aside0.mk ((HT.out.then_ hb).2)
    clear hb
    go_wp2_with fail
    go_ret
    exact ⟨by first | rfl | (simp; done), HB.out⟩
  case pos =>
    have b1 : decide ((300 : Int) < (lenw : Int)) = false := decide_eq_false (by omega)
    have b2 : ¬ (300 : Int) < (lenw : Int) := by omega
    go_upto_block 0 with fail
    go_cut [6, 7] (fun v6 v7 wx => v6 = .int .i64 ((cnt xs p : Nat) : Int) ∧ Aside0 (T w wx s (Fs xs ws p)))
    case first =>
      go_wp2_with fail
      go_loopg [6, 7] 31 (fun k v6 v7 wr => ∃ i : Nat, v7 = .int .i64 i ∧ v6 = .int .i64 ((cnt xs i : Nat) : Int) ∧ i ≤ p ∧ k = 31 - i ∧ Aside0 (T w wr s (Fs xs ws i)))
      case atStart => exact ⟨0, rfl, rfl, by omega, rfl, HT⟩
      case round =>
        clear HT
        obtain ⟨i, rfl, rfl, hi, rfl, HT⟩ := hrel
        by_cases hlt : i < p
        · obtain ⟨ad, ea, hc⟩ := HR.out.1.at_ (i : Int) (by omega) (by omega)
          subst ea
          rw [Int.toNat_natCast] at hc
          have hcw : wr.cell? (ad.add i) = some (.int .i64 (xs.getD i 0)) := (HT.out.2.cell (World.block_lt_of_cell? w _ hc)).trans hc
          clear hc
          have b3 : (i : Int) < (len : Int) := by omega
          have b4 : (i : Int) < 30 := by omega
          have HK := Aside0.mk (kk_eq xs i)
          have hk9 := kk_lt xs i
          have HPN := Aside0.mk (pushN_kk xs i)
          have HCS := Aside0.mk (cnt_succ xs i)
          have HFS := Aside0.mk (Fs_succ xs ws i)
          obtain ⟨k, hk⟩ : ∃ k, kk xs i = k := ⟨_, rfl⟩
          have hfr : fr xs ws i = ((i : Int), part ws (cnt xs i) k k) := by rw [fr, hk]
          have HFR := Aside0.mk hfr
          rw [hk] at HK hk9 HPN HCS
          have hc5 := cnt_le xs i
          clear hk hfr
          generalize xs.getD i 0 = x at hcw HK
          obtain ⟨c, hcq⟩ : ∃ c, cnt xs i = c := ⟨_, rfl⟩
          rw [hcq] at hc5 HCS HFR
          rw [hcq]
          clear hcq
          go_wp2_with fail
          refine (place_calls x 6 _ (by omega) (by omega)).mono ?_
          rw [HK.out]
          rintro e w2 ⟨rfl, n2, rfl⟩
          have C := push_t (i : Int) (k : Int) (HT.out.drewN n2) (by rw [Fs_length]; omega)
          rw [HPN.out] at C
          have HC := Aside0.mk C
          clear C HT
          go_wp2_with fail
          refine HC.out.mono ?_
          rintro e w3 ⟨rfl, h1⟩
          clear HC
          rw [← part_zero ws c k] at h1
          have HT := Aside0.mk h1
          clear h1
          go_wp2_with fail
          go_loopg [6, 9] (k + 1) (fun q v6 v9 wr => ∃ y : Nat, v9 = .int .i64 y ∧ v6 = .int .i64 ((c : Int) + (y : Int)) ∧ y ≤ k ∧ q = k + 1 - y ∧ Aside0 (T w wr s (Fs xs ws i ++ [((i : Int), part ws c k y)])))
          case atStart => exact ⟨0, rfl, by simp, by omega, rfl, HT⟩
          case round =>
            clear HT
            obtain ⟨y, rfl, rfl, hy, rfl, HT⟩ := hrel
            by_cases hylt : y < k
            · have b5 : (y : Int) < (k : Int) := by omega
              by_cases hin : c + y < lenw
              · have b6 : (c : Int) + (y : Int) < (lenw : Int) := by omega
                obtain ⟨ad2, ea, hc⟩ := HR2.out.1.at_ ((c : Int) + (y : Int)) (by omega) (by omega)
                subst ea
                rw [show ((c : Int) + (y : Int)).toNat = c + y by omega, show rd ws ((c : Int) + (y : Int)) = ws.getD (c + y) 0 from by unfold rd; rw [show ((c : Int) + (y : Int)).toNat = c + y by omega]] at hc
                have hcw2 : wr.cell? (ad2.add (c + y)) = some (.int .u64 (ws.getD (c + y) 0)) := (HT.out.2.cell (World.block_lt_of_cell? w _ hc)).trans hc
                have hbd : 0 ≤ ws.getD (c + y) 0 ∧ ws.getD (c + y) 0 < 18446744073709551616 := by
                  rw [List.getD_eq_getElem?_getD]
                  rcases hq : ws[c + y]? with _ | z
                  · simp
                  · exact HWW.out z (List.mem_of_getElem? hq)
                have C := set_t (y : Int) (ws.getD (c + y) 0) HT.out hbd.1 hbd.2
                rw [setL_last, part_set ws c k y hylt] at C
                have HC := Aside0.mk C
                clear C HT hc hbd
                generalize ws.getD (c + y) 0 = z at hcw2 HC
                have e7 : ((c : Int) + (y : Int)).toNat = c + y := by omega
                go_wp2_with fail
                refine HC.out.mono ?_
                rintro e w5 ⟨rfl, h1⟩
                have HT := Aside0.mk h1
                clear h1 HC e7
                go_wp2_with fail
                go_roundg (k + 1 - (y + 1))
                case measure => omega
                case rel => exact ⟨y + 1, by go_num, by go_num, by omega, rfl, HT⟩
              · have b6 : ¬ (c : Int) + (y : Int) < (lenw : Int) := by omega
                have HT2 := Aside0.mk (show T w wr s (Fs xs ws i ++ [((i : Int), part ws c k (y + 1))]) by rw [← part_out ws c k y (by rw [HWL.out]; omega)]; exact HT.out)
                clear HT
                go_wp2_with fail
                go_roundg (k + 1 - (y + 1))
                case measure => omega
                case rel => exact ⟨y + 1, by go_num, by go_num, by omega, rfl, HT2⟩
            · have hye : y = k := by omega
              subst hye
              have b5 : ¬ (y : Int) < (y : Int) := by omega
              have HT2 := Aside0.mk (show T w wr s (Fs xs ws (i + 1)) by rw [HFS.out, HFR.out]; exact HT.out)
              clear HT
              go_wp2_with fail
              go_roundg (31 - (i + 1))
              case measure => omega
              case rel => exact ⟨i + 1, by go_num, by rw [HCS.out]; go_num, by omega, rfl, HT2⟩
        · have hie : i = p := by omega
          subst hie
          have hcase : ((i : Int) < (len : Int) ∧ ¬ (i : Int) < 30) ∨ ¬ (i : Int) < (len : Int) := by omega
          rcases hcase with ⟨b3, b4⟩ | b3
          all_goals
            go_wp2_with fail
            go_meet
            exact ⟨rfl, HT⟩
    case rest =>
      clear HT
      obtain ⟨rfl, HT⟩ := hcut
      have hn150 := cnt_le xs p
      have HFF := Aside0.mk (Fs_flat xs ws p)
      have HFS := Aside0.mk (Fs_sum xs ws p)
      have HFL := Aside0.mk (Fs_length xs ws p)
      obtain ⟨n, hn⟩ : ∃ n, cnt xs p = n := ⟨_, rfl⟩
      rw [hn] at HFF HFS hn150
      rw [hn]
      clear hn
      obtain ⟨L, hL⟩ : ∃ L, Fs xs ws p = L := ⟨_, rfl⟩
      rw [hL] at HFF HFS HFL HT
      clear hL
      have HC := Aside0.mk (roots_t HT.out)
      go_wp2_with fail
      refine HC.out.mono ?_
      rintro e w2 ⟨v, rfl, ho, hb⟩
      obtain ⟨Ar, cr, rfl, hrd⟩ := own_reads ho
      rw [HFF.out] at hrd
      rw [HFF.out]
      simp only [vals_length] at hrd ⊢
      have HT2 := Aside0.mk (HT.out.then_ hb)
      have HRD := Aside0.mk hrd
      have C := words_b HT2.out
      rw [HFL.out, HFS.out, show ((p + n : Nat) : Int) = (n : Int) + (p : Int) by omega] at C
      have HCW := Aside0.mk C
      clear C ho hb hrd HC HT
      have c1 : ((n : Int) != (n : Int)) = false := by simp
      have c2 : ((n : Int) + (p : Int) != (n : Int) + (p : Int)) = false := by simp
      go_wp2_with fail
      refine HCW.out.mono ?_
      rintro e w3 ⟨rfl, hb⟩
      have HT3 := Aside0.mk (HT2.out.then_ hb)
      have HRD3 := Aside0.mk (HRD.out.below hb)
      clear hb HT2 HRD HCW
      go_upto_block 4 with fail
      go_cut [11] (fun v11 wz => Aside0 (T w wz s L) ∧ Aside0 (ReadsInt wz .u64 Ar n (vals ws n)))
      case first =>
        go_wp2_with fail
        go_loopg [11] (n + 1) (fun k v11 wr => ∃ i : Nat, v11 = .int .i64 i ∧ i ≤ n ∧ i ≤ lenw ∧ k = n + 1 - i ∧ Aside0 (T w wr s L) ∧ Aside0 (ReadsInt wr .u64 Ar n (vals ws n)))
        case atStart => exact ⟨0, rfl, by omega, by omega, by omega, HT3, HRD3⟩
        case round =>
          clear HT3 HRD3
          obtain ⟨i, rfl, hi, hi2, rfl, HT, HRD⟩ := hrel
          by_cases hlt : i < n ∧ i < lenw
          · obtain ⟨hl1, hl2⟩ := hlt
            obtain ⟨ad1, ea1, hc1⟩ := HRD.out.at_ (i : Int) (by omega) (by omega)
            obtain ⟨ad2, ea2, hc2⟩ := HR2.out.1.at_ (i : Int) (by omega) (by omega)
            subst ea1
            subst ea2
            rw [Int.toNat_natCast, show rd (vals ws n) (i : Int) = ws.getD i 0 from vals_get ws n i hl1] at hc1
            rw [Int.toNat_natCast, show rd ws (i : Int) = ws.getD i 0 from rfl] at hc2
            have hcw2 : wr.cell? (ad2.add i) = some (.int .u64 (ws.getD i 0)) := (HT.out.2.cell (World.block_lt_of_cell? w _ hc2)).trans hc2
            clear hc2
            generalize ws.getD i 0 = z at hc1 hcw2
            have b3 : (i : Int) < (n : Int) := by omega
            have b4 : (i : Int) < (lenw : Int) := by omega
            have b5 : (z != z) = false := by simp
            go_wp2_with fail
            go_quiet (fail)
            go_wp2_with fail
            go_roundg (n + 1 - (i + 1))
            case measure => omega
            case rel => exact ⟨i + 1, by go_num, by omega, by omega, rfl, ⟨HT.out.drewN _⟩, HRD⟩
          · have hcase : ((i : Int) < (n : Int) ∧ ¬ (i : Int) < (lenw : Int)) ∨ ¬ (i : Int) < (n : Int) := by omega
            clear hlt
            rcases hcase with ⟨b3, b4⟩ | b3
            all_goals
              go_wp2_with fail
              go_meet
              exact ⟨HT, HRD⟩
      case rest =>
        clear HT3 HRD3
        obtain ⟨HT, HRD⟩ := hcut
        obtain ⟨N, hN⟩ : ∃ N, wc.heap.size = N := ⟨_, rfl⟩
        have HTB := Aside0.mk (show TB w wc s L N by rw [← hN]; exact T.tb HT.out)
        have HN := Aside0.mk hN
        have HNW := Aside0.mk (show w.heap.size ≤ N by rw [← hN]; exact HT.out.2.size)
        have HB0 := Aside0.mk (show Below N wc wc from Below.refl _ _)
        have HO0 := Aside0.mk (show wc.ownsRow N 29 1 (.slice none 0 0) (rev ws n n).length (nums .u64 (rev ws n n)) by rw [rev_all]; exact own_nil _ _ _ _)
        clear hN
        go_wp2_with fail
        go_loopg [12, 13] (n + 1) (fun q v12 v13 wr => ∃ (m : Nat) (z : Int), v13 = .int .i64 z ∧ z = (m : Int) - 1 ∧ m ≤ n ∧ q = m + 1 ∧ Aside0 (wr.ownsRow N 29 1 v12 (rev ws n m).length (nums .u64 (rev ws n m))) ∧ Aside0 (Below N wc wr))
        case atStart => exact ⟨n, _, rfl, by go_num, by omega, rfl, HO0, HB0⟩
        case round =>
          clear HO0 HB0
          obtain ⟨m, z, rfl, hz, hm, rfl, HO, HB⟩ := hrel
          cases m with
          | succ q =>
            obtain rfl : z = (q : Int) := by omega
            clear hz
            obtain ⟨ad1, ea1, hc1⟩ := HRD.out.at_ (q : Int) (by omega) (by omega)
            subst ea1
            rw [Int.toNat_natCast, show rd (vals ws n) (q : Int) = ws.getD q 0 from vals_get ws n q (by omega)] at hc1
            have hc2 := (HB.out.cell (by rw [← HN.out]; exact World.block_lt_of_cell? wc _ hc1)).trans hc1
            clear hc1
            have HRS := Aside0.mk (rev_step ws n q (by omega))
            have HLN := Aside0.mk (rev_length ws n (q + 1))
            generalize ws.getD q 0 = x at hc2 HRS
            have HE := Aside0.mk (show ReadsInt (wr.alloc (.cells #[.int .u64 x] 29)) .u64 (some ⟨wr.heap.size, 0, none⟩) 1 [x] from own_reads' (own_lit wr wr.heap.size 29 .u64 [x] (Nat.le_refl _) (by simp)))
            have HO2 := Aside0.mk (own_alloc HO.out (.cells #[.int .u64 x] 29))
            have hNr : N ≤ wr.heap.size := by rw [← HN.out]; exact HB.out.size
            have HB2 := Aside0.mk (below_then HB.out hNr (bel_alloc wr (.cells #[.int .u64 x] 29)))
            have HBS := Aside0.mk (show N ≤ (wr.alloc (.cells #[.int .u64 x] 29)).heap.size from Nat.le_trans hNr (bel_alloc wr (.cells #[.int .u64 x] 29)).size)
            clear hNr
            clear HO HB
            go_wp2_with (at_builtin; refine print_append_row (w0 := wc) N rfl (.tmp 106) (.tmp 111) 33 29 .u64 8 rfl Try.underlying33 info64 (by decide) _ (rev ws n (q + 1)) [x] (some ⟨wr.heap.size, 0, none⟩) 1 1 rfl rfl HO2.out HE.out HB2.out HBS.out (by rw [HLN.out]; omega) ?_; intro v1 w1 hown hB hg _; rw [← HRS.out] at hown; have HO3 := Aside0.mk hown; have HB3 := Aside0.mk hB; clear hown hB hg)
            go_roundg (q + 1)
            case measure => omega
            case rel => exact ⟨q, _, rfl, by go_num, by omega, rfl, HO3, HB3⟩
          | zero =>
            have b3 : ¬ (0 : Int) ≤ z := by omega
            have b4 : decide ((0 : Int) ≤ z) = false := decide_eq_false b3
            clear hz
            have hrow := Row.of_own HO.out
            rw [rev_length, Nat.sub_zero] at hrow
            obtain ⟨Ab, cb, hv, hcb, hrb, hnb⟩ := Row.reads hrow
            subst hv
            have hbx := rev_w ws n 0 HWW.out
            obtain ⟨bk, hbk⟩ : ∃ bk, rev ws n 0 = bk := ⟨_, rfl⟩
            rw [hbk] at hrow hrb hbx
            clear hbk
            have hbn : bk.length = n := hrb.1
            have htb : TB w wr s L N := TB.then_ HTB.out (by have := HB.out; rw [← HN.out] at this; exact this)
            have C := load_tb htb hrb hcb hnb hbx
            rw [HFS.out, if_pos rfl, decide_eq_true rfl] at C
            have hfl : flatL (loadL L bk) = bk := flatL_load L bk (by rw [HFS.out]; exact hbn)
            have hsl : sumL (loadL L bk) = n := by rw [sumL_load L bk (by rw [HFS.out]; exact hbn), HFS.out]
            generalize loadL L bk = L2 at C hfl hsl
            have HF2 := Aside0.mk hfl
            have HS2 := Aside0.mk hsl
            have HNB := Aside0.mk hnb
            have HBX := Aside0.mk hbx
            have HBN := Aside0.mk hbn
            have HROW := Aside0.mk hrow
            have HSZ := Aside0.mk (show N ≤ wr.heap.size by rw [← HN.out]; exact HB.out.size)
            have HCB := Aside0.mk hcb
            have HC := Aside0.mk C
            clear C hfl hsl hnb hbx hbn hrow hcb hrb htb HO HB HTB HRD HT
            go_wp2_with fail
            refine HC.out.mono ?_
            rintro e w4 ⟨rfl, htb, hm⟩
            have HTB4 := Aside0.mk htb
            have HSZ4 := Aside0.mk (Nat.le_trans HSZ.out hm.size)
            have HROW4 := Aside0.mk (HROW.out.mods hm (fun i hi hS => by have := (HROW.out.base_ i hi).1; omega))
            have C := roots_t (TB.t htb)
            have HC4 := Aside0.mk C
            clear C htb hm HC HROW
            go_wp2_with fail
            refine HC4.out.mono ?_
            rintro e w5 ⟨v5, rfl, ho, hb⟩
            rw [HF2.out] at ho
            obtain ⟨A5, c5, rfl, hrd5⟩ := own_reads ho
            rw [HBN.out] at hrd5
            rw [HBN.out]
            have HTB5 := Aside0.mk (HTB4.out.then_ hb)
            have HSZ5 := Aside0.mk (Nat.le_trans HSZ4.out hb.size)
            have HROW5 := Aside0.mk (HROW4.out.mods (Mods.of_below (fun _ => False) hb) (fun _ _ => id))
            have HRD5 := Aside0.mk hrd5
            obtain ⟨Ab', cb', hv', _, hrb5, _⟩ := Row.reads HROW5.out
            injection hv' with e1 e2 e3
            subst e1
            have HRB5 := Aside0.mk hrb5
            have HC5 := Aside0.mk (same_calls w5 A5 Ab n c5 cb bk hrd5 hrb5)
            clear hrb5 e2 e3 ho hb hrd5 HC4 HTB4 HROW4
            go_wp2_with fail
            refine HC5.out.mono ?_
            rintro e w6 ⟨rfl, n6, rfl⟩
            have HTB6 := Aside0.mk (HTB5.out.drewN n6)
            have HROW6 := Aside0.mk (show Row (w5.drewN n6) N 29 1 (.slice Ab n cb) n (nums .u64 bk) from HROW5.out)
            clear HTB5 HROW5 HRD5 HRB5 HC5
            have HSZ6 := Aside0.mk (show N ≤ (w5.drewN n6).heap.size from HSZ5.out)
            generalize w5.drewN n6 = w6 at HTB6 HROW6 HSZ6 ⊢
            obtain ⟨i0, hi0, hz0⟩ := Option.map_eq_some_iff.1 info64
            simp only [Prod.mk.injEq] at hz0
            have HI := Aside0.mk (And.intro hi0 hz0)
            clear hi0 hz0
            have hba := bel_alloc w6 (.cells #[.int .u64 1] 29)
            have HTBA := Aside0.mk (HTB6.out.then_ hba)
            have HROWA := Aside0.mk (HROW6.out.mods (Mods.of_below (fun _ => False) hba) (fun _ _ => id))
            have HSZA := Aside0.mk (Nat.le_trans HSZ6.out hba.size)
            have HNEWS := Aside0.mk (World.news_of_block (cs := #[.int .u64 1]) (t := 29) (fr := (0, 0)) (show (w6.alloc (.cells #[.int .u64 1] 29)).heap[w6.heap.size]? = _ by simpa using heap_alloc_new w6 _))
            have H1C := Aside0.mk (show ∀ u ∈ [Value.int .u64 1], u.oneCell' = true from by intro u hu; simp at hu; rw [hu]; rfl)
            have H63 := Aside0.mk (show n + 1 ≤ maxLen by simp only [maxLen]; omega)
            have HBY := Aside0.mk (show (n + 1) * 8 ≤ 140737488355328 by omega)
            clear HTB6 HROW6 HSZ6 hba
            go_wp2_with (at_builtin; refine wp_append_keep_w rfl (.tmp 126) (.tmp 127) 33 rfl N 29 i0 (.int .u64 0) 1 8 Try.underlying33 HI.out.1 HI.out.2.1 HI.out.2.2.1 HI.out.2.2.2 rfl (by omega) (.slice Ab n cb) n (nums .u64 bk) rfl HROWA.out ⟨w6.heap.size, 0, none⟩ 1 1 [.int .u64 1] rfl rfl HNEWS.out H1C.out H63.out HBY.out HSZA.out ?_; intro A7 c7 w7 hrow hkeep hg hat; have HROW7 := Aside0.mk hrow; have HKEEP7 := Aside0.mk hkeep; have HG7 := Aside0.mk hg; clear hrow hkeep hg hat)
            have HTB7 := Aside0.mk (TB.grown HTBA.out HNW.out HROWA.out HG7.out)
            have hrow7 : Row w7 N 29 1 (.slice A7 (n + 1) c7) (n + 1) (nums .u64 (bk ++ [1])) := by have := HROW7.out; simpa [nums] using this
            obtain ⟨Ax, cx, hv7, hcx, hrx, hnx⟩ := Row.reads hrow7
            injection hv7 with e1 e2 e3
            subst e1
            subst e3
            have hbx1 : W64 (bk ++ [1]) := fun y hy => by
              rcases List.mem_append.1 hy with hy | hy
              · exact HBX.out y hy
              · rw [List.mem_singleton] at hy; omega
            have C := load_tb HTB7.out hrx hcx hnx hbx1
            rw [HS2.out, if_neg (by omega), decide_eq_false (by omega)] at C
            have HC7 := Aside0.mk C
            clear C hrow7 hrx hcx hnx hbx1 e2 HROW7 HROWA HTBA HG7 HSZA HNEWS H1C H63 HBY HTB7
            refine HC7.out.mono ?_
            rintro e w8 ⟨rfl, htb, hm⟩
            have HTB8 := Aside0.mk htb
            have HROW8 := Aside0.mk (HKEEP7.out.mods hm (fun i hi hS => by have := (HKEEP7.out.base_ i hi).1; omega))
            clear htb hm HKEEP7 HC7
            by_cases hn0 : 0 < n
            · have b5 : (0 : Int) < (n : Int) := by omega
              have b6 : decide ((0 : Int) < (n : Int)) = true := decide_eq_true b5
              have b7 : (n : Int) - 1 ≤ (cb : Int) := by have := HCB.out; omega
              have b8 : (0 : Int) ≤ (n : Int) - 1 := by omega
              go_wp2_with fail
              have hrow8 := HROW8.out
              obtain ⟨Ax, cx, hv8, _, hrx, hnx⟩ := Row.reads hrow8
              injection hv8 with e1 e2 e3
              subst e1
              have hrt := reads_take hrx (n - 1) (by omega)
              have C := load_tb (c := cb) HTB8.out hrt (by have := HCB.out; omega) hnx (fun y hy => HBX.out y (List.mem_of_mem_take hy))
              rw [HS2.out, if_neg (by omega), decide_eq_false (by omega)] at C
              have HC8 := Aside0.mk C
              clear C hrow8 hrx hnx hrt e2 e3
              refine HC8.out.mono ?_
              rintro e w9 ⟨rfl, htb, hm⟩
              have HTB9 := Aside0.mk htb
              have HROW9 := Aside0.mk (HROW8.out.mods hm (fun i hi hS => by have := (HROW8.out.base_ i hi).1; omega))
              clear htb hm HC8 HTB8 HROW8
              have HC9 := Aside0.mk (roots_t (TB.t HTB9.out))
              go_wp2_with fail
              refine HC9.out.mono ?_
              rintro e w10 ⟨v10, rfl, ho, hb⟩
              rw [HF2.out] at ho
              obtain ⟨A10, c10, rfl, hrd10⟩ := own_reads ho
              rw [HBN.out] at hrd10
              rw [HBN.out]
              have HTB10 := Aside0.mk (HTB9.out.then_ hb)
              have hrow10 := HROW9.out.mods (Mods.of_below (fun _ => False) hb) (fun _ _ => id)
              obtain ⟨Ab', cb', hv', _, hrb10, _⟩ := Row.reads hrow10
              injection hv' with e1 e2 e3
              subst e1
              have HC10 := Aside0.mk (same_calls w10 A10 Ab n c10 cb bk hrd10 hrb10)
              clear hrb10 e2 e3 ho hb hrd10 hrow10 HC9 HTB9 HROW9
              go_wp2_with fail
              refine HC10.out.mono ?_
              rintro e w11 ⟨rfl, n11, rfl⟩
              go_wp2_with fail
              refine (awake_calls _).mono ?_
              rintro e w12 ⟨rfl, hb⟩
              have HBF := Aside0.mk (((HTB10.out.drewN n11).then_ hb).2)
              clear hb
              go_wp2_with fail
              go_ret
              exact ⟨by first | rfl | (simp; done), HBF.out⟩
            · have b5 : ¬ (0 : Int) < (n : Int) := by omega
              have b6 : decide ((0 : Int) < (n : Int)) = false := decide_eq_false b5
              have HTB9 := HTB8
              have HROW9 := HROW8
              clear HTB8 HROW8
              have HC9 := Aside0.mk (roots_t (TB.t HTB9.out))
              go_wp2_with fail
              refine HC9.out.mono ?_
              rintro e w10 ⟨v10, rfl, ho, hb⟩
              rw [HF2.out] at ho
              obtain ⟨A10, c10, rfl, hrd10⟩ := own_reads ho
              rw [HBN.out] at hrd10
              rw [HBN.out]
              have HTB10 := Aside0.mk (HTB9.out.then_ hb)
              have hrow10 := HROW9.out.mods (Mods.of_below (fun _ => False) hb) (fun _ _ => id)
              obtain ⟨Ab', cb', hv', _, hrb10, _⟩ := Row.reads hrow10
              injection hv' with e1 e2 e3
              subst e1
              have HC10 := Aside0.mk (same_calls w10 A10 Ab n c10 cb bk hrd10 hrb10)
              clear hrb10 e2 e3 ho hb hrd10 hrow10 HC9 HTB9 HROW9
              go_wp2_with fail
              refine HC10.out.mono ?_
              rintro e w11 ⟨rfl, n11, rfl⟩
              go_wp2_with fail
              refine (awake_calls _).mono ?_
              rintro e w12 ⟨rfl, hb⟩
              have HBF := Aside0.mk (((HTB10.out.drewN n11).then_ hb).2)
              clear hb
              go_wp2_with fail
              go_ret
              exact ⟨by first | rfl | (simp; done), HBF.out⟩
end Go.Proofs.YthdmacdeefohkaaSRootsLaw
