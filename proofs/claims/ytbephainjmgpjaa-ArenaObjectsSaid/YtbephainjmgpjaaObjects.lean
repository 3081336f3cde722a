/- ArenaObjects: objects side by side, by their heads: each has its extent; a word less, and the last one has none. The walk. -/
import Derived.Test.YtbephainjmgpjaaAwake11
import Derived.Test.YtbephainjmgpjaaPlace
import Derived.Test.YtbephainjmgpjaaWRef
namespace Go.Proofs.YtbephainjmgpjaaObjects
open Go.RowKit Go.Proofs.YtbephainjmgpjaaW.PrintWords Go.Proofs.YtbephainjmgpjaaW.PrintLast Go.Proofs.YtbephainjmgpjaaW.PrintMore Go.Proofs.YtbephainjmgpjaaMem Go.Proofs.YtbephainjmgpjaaBits Go.Proofs Go.Proofs.YtbephainjmgpjaaAr Go.Proofs.YtbephainjmgpjaaPl Go.Proofs.Ytbephainjmgpjaa.PWordAll Go.Proofs.YtbephainjmgpjaaWRef
attribute [local go_sem] max2_int min2_int max_two min_two max_three min_three max_four min_four
set_option linter.unusedVariables false
set_option linter.unusedSimpArgs false

/-- How many words the first objects have together. -/
def S (xs : List Int) : Nat → Nat
  | 0 => 0
  | i + 1 => S xs i + 1 + (rd xs i % 9).toNat
theorem S_le (xs : List Int) (i : Nat) : S xs i ≤ 9 * i := by
  induction i with
  | zero => simp [S]
  | succ i ih => simp only [S]; omega
theorem S_mono (xs : List Int) (i m : Nat) (h : i ≤ m) : S xs i ≤ S xs m := by
  induction h with
  | refl => exact Nat.le_refl _
  | step _ ih => simp only [S]; omega
theorem okA_of (l : List Int) (n : Nat) (k : Nat) (h : l.length + k ≤ n) : okA l n k = true := by unfold okA; simp; omega
theorem resA_of (l : List Int) (n : Nat) (k : Nat) (h : l.length + k ≤ n) : resA l n k = l ++ List.replicate k 0 := by unfold resA; rw [okA_of l n k h]; simp
theorem atA_of (l : List Int) (n : Nat) (k : Nat) (h : l.length + k ≤ n) : atA l n k = (l.length : Nat) := by unfold atA; rw [okA_of l n k h]; rfl
theorem okA_no (l : List Int) (n : Nat) (k : Nat) (h : n < l.length + k) : okA l n k = false := by unfold okA; simp; omega
theorem resA_no (l : List Int) (n : Nat) (k : Nat) (h : n < l.length + k) : resA l n k = l := by unfold resA; rw [okA_no l n k h]; simp
theorem atA_no (l : List Int) (n : Nat) (k : Nat) (h : n < l.length + k) : atA l n k = 0 := by unfold atA; rw [okA_no l n k h]; rfl
/-- The list with a new object's first word set. -/
def putA (l : List Int) (k : Nat) (v : Int) : List Int := setA (l ++ List.replicate k 0) (l.length : Nat) v
theorem putA_length (l : List Int) (k : Nat) (v : Int) : (putA l k v).length = l.length + k := by simp [putA, setA_length]
theorem putA_eq (l : List Int) (k : Nat) (v : Int) (h : 0 < k) : putA l k v = l ++ v :: List.replicate (k - 1) 0 := by
  unfold putA setA
  rw [if_pos (by simp; omega), Int.toNat_natCast, List.set_append_right _ _ (Nat.le_refl _)]
  obtain ⟨m, rfl⟩ : ∃ m, k = m + 1 := ⟨k - 1, by omega⟩
  rw [List.replicate_succ]
  simp
theorem putA_at (l : List Int) (k : Nat) (v : Int) (h : 0 < k) : (putA l k v).getD ((l.length : Nat) : Int).toNat 0 = v := by
  rw [putA_eq l k v h, Int.toNat_natCast]
  simp [List.getD_eq_getElem?_getD]
theorem ext_head (l : List Int) (k : Nat) (v : Int) (hv : v % 4 = 0) (hk : v / 64 = k) : extA (putA l (1 + k) v) (l.length : Nat) = 1 + (k : Int) := by
  unfold extA extW
  rw [if_pos (by rw [putA_length]; omega), putA_at l (1 + k) v (by omega), if_pos hv, putA_length, if_pos (by omega), hk]
theorem ext_cell (l : List Int) (v : Int) (hv : v % 4 ≠ 0) : extA (putA l 2 v) (l.length : Nat) = 2 := by
  unfold extA extW
  rw [if_pos (by rw [putA_length]; omega), putA_at l 2 v (by omega), if_neg hv, putA_length, if_pos (by omega)]
theorem word_next (l : List Int) (v : Int) : wordA (putA l 2 v) ((l.length : Nat) + 1) = 0 := by
  unfold wordA
  rw [if_pos (by rw [putA_length]; omega), putA_eq l 2 v (by omega)]
  have : (((l.length : Nat) : Int) + 1).toNat = l.length + 1 := by omega
  rw [this]
  simp [List.getD_eq_getElem?_getD]
theorem ext_end (l : List Int) : extA l (l.length : Nat) = 0 := by unfold extA; rw [if_neg (by omega)]
theorem ext_last (l : List Int) (v : Int) (hv : v % 4 ≠ 0) (h : 0 < l.length) : extA (setA l ((l.length : Nat) - 1) v) ((l.length : Nat) - 1) = 0 := by
  have hn : (((l.length : Nat) : Int) - 1).toNat = l.length - 1 := by omega
  have e1 : setA l ((l.length : Nat) - 1) v = l.set (l.length - 1) v := by unfold setA; rw [if_pos (by omega), hn]
  unfold extA extW
  rw [setA_length, if_pos (by omega), hn, e1]
  have : (l.set (l.length - 1) v).getD (l.length - 1) 0 = v := by
    rw [List.getD_eq_getElem?_getD, List.getElem?_set_self (by omega)]; rfl
  rw [this, if_neg hv, if_neg (by omega)]

/-- A slice of whole numbers that came in: its elements. -/
def InRow (w : World) (a : Option Addr) (n c : Nat) (xs : List Int) : Prop := ReadsInt w .i64 a n xs ∧ n ≤ c
set_option maxHeartbeats 8000000 in
set_option maxRecDepth 100000 in
theorem law_calls (cells : Int) (a : Option Addr) (len cap : Nat) (xs : List Int) (w : World) (hr : InRow w a len cap xs) :
    Calls Try.prog 8 #[.slice a len cap, .int .i64 cells] w fun e w' => e = .returned (.bool true) ∧ Below w.heap.size w w' := by
  have HR := Aside0.mk hr
  clear hr
  obtain ⟨c, hc⟩ : ∃ c : Nat, cells % 5 = c := ⟨(cells % 5).toNat, by omega⟩
  have hc5 : c < 5 := by omega
  have HCC := Aside0.mk hc
  clear hc
  go_enter Try.func8, Try.ntmps8
  go_wp2_with fail
  go_loopg [5, 6] 21 (fun k v5 v6 wr => ∃ i : Nat, v5 = .int .i64 (S xs i : Nat) ∧ v6 = .int .i64 i ∧ i ≤ 20 ∧ i ≤ len ∧ k = 21 - i ∧ Aside0 (Below w.heap.size w wr))
  case atStart => exact ⟨0, rfl, rfl, by omega, by omega, rfl, ⟨Below.refl _ _⟩⟩
  case round =>
    obtain ⟨i, rfl, rfl, hi, hil, rfl, HB⟩ := hrel
    by_cases hlt : i < len ∧ i < 20
    · obtain ⟨hl1, hl2⟩ := hlt
      obtain ⟨ad, ea, hc⟩ := HR.out.1.at_ (i : Int) (by omega) (by omega)
      subst ea
      rw [Int.toNat_natCast] at hc
      have hcw : wr.cell? (ad.add i) = some (.int .i64 (rd xs i)) := (HB.out.cell (World.block_lt_of_cell? w _ hc)).trans hc
      clear hc
      have hS : S xs (i + 1) = S xs i + 1 + (rd xs i % 9).toNat := rfl
      have hb0 := S_le xs i
      have HS := Aside0.mk (show ((S xs (i + 1) : Nat) : Int) = (S xs i : Nat) + 1 + rd xs i % 9 by rw [hS]; omega)
      clear hS
      have b1 : (i : Int) < (len : Int) := by omega
      have b2 : (i : Int) < 20 := by omega
      have b3 : 0 ≤ rd xs i % 9 ∧ rd xs i % 9 < 9 := by omega
      have HP := Aside0.mk (fun W => place_calls (rd xs i) 9 W (by omega) (by omega))
      obtain ⟨b4, b5⟩ := b3
      generalize rd xs i = x at hcw HP HS b4 b5
      go_wp2_with fail
      refine (HP.out _).mono ?_
      generalize x % 9 = y at b4 b5 HS ⊢
      rintro e w2 ⟨rfl, n2, rfl⟩
      go_wp2_with fail
      go_roundg (21 - (i + 1))
      case measure => omega
      case rel => exact ⟨i + 1, by rw [HS.out], by go_num, by omega, by omega, rfl, ⟨pw_below_drewN HB.out _⟩⟩
    · have hcase : ((i : Int) < (len : Int) ∧ ¬ (i : Int) < 20) ∨ ¬ (i : Int) < (len : Int) := by omega
      have hn := S_le xs i
      have hn2 : S xs i ≤ 180 := by omega
      have HM := Aside0.mk (S_mono xs)
      clear hlt hn
      obtain ⟨n, hgn⟩ : ∃ n, S xs i = n := ⟨_, rfl⟩
      rw [hgn] at hn2
      have HN := Aside0.mk hgn
      clear hgn
      rcases hcase with ⟨b1, b2⟩ | b1
      all_goals
        go_wp2_with fail
        rw [HN.out]
        refine (place_calls cells 5 _ (by omega) (by omega)).mono ?_
        rw [HCC.out]
        rintro e w2 ⟨rfl, n2, rfl⟩
        go_wp2_with fail
        refine (new_calls ((n : Int) + 2 * (c : Int)) _).mono ?_
        rintro e w1 ⟨rfl, ha, hb⟩
        rw [show sizeA ((n : Int) + 2 * (c : Int)) = n + 2 * c from by unfold sizeA; (repeat' split) <;> omega] at ha
        have hg : w.heap.size ≤ (wr.drewN n2).heap.size + 1 := Nat.le_trans HB.out.size (Nat.le_succ _)
        have hgw : w.heap.size ≤ (wr.drewN n2).heap.size := HB.out.size
        have hb1 : Below w.heap.size w w1 := below_then (pw_below_drewN HB.out n2) hgw hb
        generalize (wr.drewN n2).heap.size + 1 = g at ha hg ⊢
        generalize (wr.drewN n2).heap.size = gw at ha hgw
        have HB1 := Aside0.mk hb1
        have HG := Aside0.mk hg
        have HGW := Aside0.mk hgw
        have HA := Aside0.mk ha
        clear hb hg hgw ha hb1 HB
        go_wp2_with fail
        go_loopg [9] (i + 1) (fun k v9 wr => ∃ (j : Nat) (L : List Int), v9 = .int .i64 j ∧ j ≤ i ∧ k = i + 1 - j ∧ Aside0 (L.length = S xs j) ∧ Aside0 (Ar wr g gw L (n + 2 * c)) ∧ Aside0 (Below w.heap.size w wr))
        case atStart => exact ⟨0, [], rfl, by omega, by omega, ⟨rfl⟩, HA, HB1⟩
        case round =>
          clear HA HB1
          obtain ⟨j, L, rfl, hj, rfl, HL, HA, HB⟩ := hrel
          by_cases hjl : j < i
          · have hl1 : j < len := by omega
            obtain ⟨ad, ea, hcl⟩ := HR.out.1.at_ (j : Int) (by omega) (by omega)
            subst ea
            rw [Int.toNat_natCast] at hcl
            have hcw : wr.cell? (ad.add j) = some (.int .i64 (rd xs j)) := (HB.out.cell (World.block_lt_of_cell? w _ hcl)).trans hcl
            clear hcl
            obtain ⟨kk, hk⟩ : ∃ kk : Nat, rd xs j % 9 = kk := ⟨(rd xs j % 9).toNat, by omega⟩
            have hk9 : kk < 9 := by omega
            have hS : S xs (j + 1) = S xs j + 1 + kk := by
              show S xs j + 1 + (rd xs j % 9).toNat = _; rw [hk]; simp
            have hle := HM.out (j + 1) i hjl
            rw [HN.out] at hle
            have hroom : L.length + (1 + kk) ≤ n + 2 * c := by have := HL.out; omega
            have HS := Aside0.mk hS
            have HK := Aside0.mk hk
            clear hS hk hle
            generalize rd xs j = x at hcw HK
            have b3 : (j : Int) < (len : Int) := by omega
            have b4 : (j : Int) < 20 := by omega
            have C := fun q => alloc_calls (wr.drewN q) g gw (n + 2 * c) L ((1 + kk : Nat) : Int) (Ar.drewN HA.out q)
            rw [okA_of L _ _ hroom, resA_of L _ _ hroom, atA_of L _ _ hroom, show ((1 + kk : Nat) : Int) = 1 + (kk : Int) from by omega] at C
            have HC := Aside0.mk C
            clear C hroom
            obtain ⟨v, hv⟩ : ∃ v : Int, (kk : Int) * 64 + (1 + (kk : Int) % 6) % 16 * 4 = v := ⟨_, rfl⟩
            have hh := ref_head_eq (1 + (kk : Int) % 6) kk
            rw [cutI_id (by omega) (by omega), hv] at hh
            have hv0 : 0 ≤ v ∧ v < 18446744073709551616 ∧ v % 4 = 0 ∧ v / 64 = kk := by omega
            have HH := Aside0.mk hh
            have HV := Aside0.mk hv0
            clear hh hv hv0
            go_wp2_with fail
            refine (place_calls x 9 _ (by omega) (by omega)).mono ?_
            rw [HK.out]
            rintro e w2 ⟨rfl, n3, rfl⟩
            go_wp2_with fail
            refine (HC.out _).mono ?_
            rintro e w3 ⟨rfl, ha, hm⟩
            have HA3 := Aside0.mk ha
            have HB3 := Aside0.mk (below_mods (pw_below_drewN HB.out n3) hm HB.out.size (fun q hq => by rw [hq]; exact HG.out))
            clear ha hm HC HA HB
            go_wp2_with fail
            refine (relictref10_Head.calls _ _ v _ HH.out).mono ?_
            rintro e w4 ⟨rfl, hb⟩
            have HA4 := Aside0.mk (HA3.out.below hb)
            have HB4 := Aside0.mk (below_then HB3.out HB3.out.size hb)
            clear hb HA3 HB3
            go_wp2_with fail
            refine (set_calls w4 g gw (n + 2 * c) _ (L.length : Nat) v HA4.out HV.out.1 HV.out.2.1).mono ?_
            rintro e w5 ⟨rfl, ha, hm⟩
            have HA5 := Aside0.mk (show Ar w5 g gw (putA L (1 + kk) v) (n + 2 * c) from ha)
            have HB5 := Aside0.mk (below_mods HB4.out hm HB4.out.size (fun q hq => by rw [hq]; exact HGW.out))
            clear ha hm HA4 HB4
            go_wp2_with fail
            refine (extent_calls w5 g gw (n + 2 * c) _ (L.length : Nat) HA5.out).mono ?_
            rw [ext_head L kk v HV.out.2.2.1 HV.out.2.2.2]
            rintro e w6 ⟨rfl, n6, rfl⟩
            go_wp2_with fail
            go_roundg (i + 1 - (j + 1))
            case measure => omega
            case rel => exact ⟨j + 1, putA L (1 + kk) v, by go_num, by omega, rfl, ⟨by rw [putA_length, HS.out, HL.out]; omega⟩, ⟨Ar.drewN HA5.out _⟩, ⟨pw_below_drewN HB5.out _⟩⟩
          · have hje : j = i := by omega
            subst hje
            have HL2 := Aside0.mk (show L.length = n by rw [HL.out, HN.out])
            clear HL
            go_wp2_with fail
            go_loopg [13] (c + 1) (fun k v13 wr => ∃ (j : Nat) (L : List Int), v13 = .int .i64 j ∧ j ≤ c ∧ k = c + 1 - j ∧ Aside0 (L.length = n + 2 * j) ∧ Aside0 (Ar wr g gw L (n + 2 * c)) ∧ Aside0 (Below w.heap.size w wr))
            case atStart => exact ⟨0, L, rfl, by omega, by omega, HL2, HA, HB⟩
            case round =>
              clear HA HB HL2
              obtain ⟨q, L, rfl, hq, rfl, HL, HA, HB⟩ := hrel
              by_cases hqc : q < c
              · have hroom : L.length + 2 ≤ n + 2 * c := by have := HL.out; omega
                have C := alloc_calls wr g gw (n + 2 * c) L ((2 : Nat) : Int) HA.out
                rw [okA_of L _ _ hroom, resA_of L _ _ hroom, atA_of L _ _ hroom] at C
                have HC := Aside0.mk C
                clear C hroom
                obtain ⟨v, hv⟩ : ∃ v : Int, (q : Int) * 16 + 3 = v := ⟨_, rfl⟩
                have hh := ref_small_eq q
                rw [smallI_id (by omega) (by omega), show (q : Int) * 16 % 18446744073709551616 + 3 = v from by omega] at hh
                have hv0 : 0 ≤ v ∧ v < 18446744073709551616 ∧ v % 4 ≠ 0 := by omega
                have HH := Aside0.mk hh
                have HV := Aside0.mk hv0
                clear hh hv hv0
                go_wp2_with fail
                refine HC.out.mono ?_
                rintro e w3 ⟨rfl, ha, hm⟩
                have HA3 := Aside0.mk ha
                have HB3 := Aside0.mk (below_mods HB.out hm HB.out.size (fun q hq => by rw [hq]; exact HG.out))
                clear ha hm HC HA HB
                go_wp2_with fail
                refine (relictref10_Small.calls _ v _ HH.out).mono ?_
                rintro e w4 ⟨rfl, hb⟩
                have HA4 := Aside0.mk (HA3.out.below hb)
                have HB4 := Aside0.mk (below_then HB3.out HB3.out.size hb)
                clear hb HA3 HB3
                go_wp2_with fail
                refine (set_calls _ g gw (n + 2 * c) _ (L.length : Nat) v HA4.out HV.out.1 HV.out.2.1).mono ?_
                rintro e w5 ⟨rfl, ha, hm⟩
                have HA5 := Aside0.mk (show Ar w5 g gw (putA L 2 v) (n + 2 * c) from ha)
                have HB5 := Aside0.mk (below_mods HB4.out hm HB4.out.size (fun q hq => by rw [hq]; exact HGW.out))
                clear ha hm HA4 HB4
                go_wp2_with fail
                refine (extent_calls w5 g gw (n + 2 * c) _ (L.length : Nat) HA5.out).mono ?_
                rw [ext_cell L v HV.out.2.2]
                rintro e w6 ⟨rfl, n6, rfl⟩
                have hln : L.length ≤ 200 := by have := HL.out; omega
                go_wp2_with fail
                refine (word_calls _ g gw (n + 2 * c) _ ((L.length : Nat) + 1) (Ar.drewN HA5.out _)).mono ?_
                rw [word_next L v]
                rintro e w7 ⟨rfl, n7, rfl⟩
                go_wp2_with fail
                go_roundg (c + 1 - (q + 1))
                case measure => omega
                case rel => exact ⟨q + 1, putA L 2 v, by go_num, by omega, rfl, ⟨by rw [putA_length, HL.out]; omega⟩, ⟨Ar.drewN HA5.out _⟩, ⟨pw_below_drewN HB5.out _⟩⟩
              · have hqe : q = c := by omega
                subst hqe
                obtain ⟨M, hM⟩ : ∃ M, L.length = M := ⟨_, rfl⟩
                have hMn : M = n + 2 * q := by rw [← hM]; exact HL.out
                have hM200 : M ≤ 188 := by omega
                have C := alloc_calls wr g gw (n + 2 * q) L 1 HA.out
                rw [show okA L (n + 2 * q) 1 = false from okA_no L _ 1 (by omega), show resA L (n + 2 * q) 1 = L from resA_no L _ 1 (by omega), show atA L (n + 2 * q) 1 = 0 from atA_no L _ 1 (by omega)] at C
                have HC := Aside0.mk C
                have HM1 := Aside0.mk hM
                have HMN := Aside0.mk hMn
                have hh := ref_small_eq 3
                rw [smallI_id (by omega) (by omega), show (3 : Int) * 16 % 18446744073709551616 + 3 = 51 from by omega] at hh
                have HH := Aside0.mk hh
                clear C hM hMn hh
                go_wp2_with fail
                refine HC.out.mono ?_
                rintro e w3 ⟨rfl, ha, hm⟩
                have HA3 := Aside0.mk ha
                have HB3 := Aside0.mk (below_mods HB.out hm HB.out.size (fun q hq => by rw [hq]; exact HG.out))
                clear ha hm HC HA HB
                go_wp2_with fail
                refine (used_calls w3 g gw (n + 2 * q) L HA3.out).mono ?_
                rw [HM1.out]
                rintro e wx ⟨rfl, n4, rfl⟩
                go_wp2_with fail
                refine (relictref10_Small.calls _ 51 _ HH.out).mono ?_
                rintro e w4 ⟨rfl, hb⟩
                have HA4 := Aside0.mk ((Ar.drewN HA3.out n4).below hb)
                have HB4 := Aside0.mk (below_then (pw_below_drewN HB3.out n4) HB3.out.size hb)
                clear hb HA3 HB3
                go_wp2_with fail
                refine (set_calls _ g gw (n + 2 * q) L ((M : Int) - 1) 51 HA4.out (by omega) (by omega)).mono ?_
                rintro e w5 ⟨rfl, ha, hm⟩
                have HA5 := Aside0.mk ha
                have HB5 := Aside0.mk (below_mods HB4.out hm HB4.out.size (fun q hq => by rw [hq]; exact HGW.out))
                have hx1 : extA (setA L ((M : Int) - 1) 51) (M : Nat) = 0 := by
                  have := ext_end (setA L ((M : Int) - 1) 51)
                  rwa [setA_length, HM1.out] at this
                have hx2 : 0 < M → extA (setA L ((M : Int) - 1) 51) ((M : Int) - 1) = 0 := fun h => by
                  have := ext_last L 51 (by decide) (by rw [HM1.out]; exact h)
                  rwa [HM1.out] at this
                have HM2 := Aside0.mk (show (setA L ((M : Int) - 1) 51).length = M by rw [setA_length, HM1.out])
                have HX1 := Aside0.mk hx1
                have HX2 := Aside0.mk hx2
                clear ha hm HA4 HB4 hx1 hx2
                generalize setA L ((M : Int) - 1) 51 = L2 at HA5 HM2 HX1 HX2
                go_wp2_with fail
                refine (used_calls w5 g gw (n + 2 * q) L2 HA5.out).mono ?_
                rw [HM2.out]
                rintro e wx ⟨rfl, n5, rfl⟩
                go_wp2_with fail
                refine (extent_calls _ g gw (n + 2 * q) L2 (M : Nat) (Ar.drewN HA5.out _)).mono ?_
                rw [HX1.out]
                rintro e wx ⟨rfl, n6, rfl⟩
                by_cases hz : n + q = 0
                · have z1 : ((n : Int) + (q : Int) == 0) = true := by rw [beq_iff_eq]; omega
                  have z2 : (n : Int) + (q : Int) = 0 := by omega
                  go_wp2_with fail
                  refine (used_calls _ g gw (n + 2 * q) L2 (Ar.drewN HA5.out _)).mono ?_
                  rw [HM2.out]
                  rintro e wx ⟨rfl, n9, rfl⟩
                  go_wp2_with fail
                  refine (awake_calls _).mono ?_
                  rintro e wx ⟨rfl, hb⟩
                  have HBL := Aside0.mk (below_then (pw_below_drewN HB5.out _) HB5.out.size hb)
                  clear hb
                  go_wp2_with fail
                  go_ret
                  exact ⟨by first | rfl | (simp; done), HBL.out⟩
                · have z1 : ((n : Int) + (q : Int) == 0) = false := by rw [beq_eq_false_iff_ne]; omega
                  have z2 : ¬ (n : Int) + (q : Int) = 0 := by omega
                  go_wp2_with fail
                  refine (used_calls _ g gw (n + 2 * q) L2 (Ar.drewN HA5.out _)).mono ?_
                  rw [HM2.out]
                  rintro e wx ⟨rfl, n7, rfl⟩
                  go_wp2_with fail
                  refine (extent_calls _ g gw (n + 2 * q) L2 ((M : Int) - 1) (Ar.drewN HA5.out _)).mono ?_
                  rw [HX2.out (by have := HMN.out; omega)]
                  rintro e wx ⟨rfl, n8, rfl⟩
                  go_wp2_with fail
                  refine (used_calls _ g gw (n + 2 * q) L2 (Ar.drewN HA5.out _)).mono ?_
                  rw [HM2.out]
                  rintro e wx ⟨rfl, n9, rfl⟩
                  go_wp2_with fail
                  refine (awake_calls _).mono ?_
                  rintro e wx ⟨rfl, hb⟩
                  have HBL := Aside0.mk (below_then (pw_below_drewN HB5.out _) HB5.out.size hb)
                  clear hb
                  go_wp2_with fail
                  go_ret
                  exact ⟨by first | rfl | (simp; done), HBL.out⟩
end Go.Proofs.YtbephainjmgpjaaObjects
