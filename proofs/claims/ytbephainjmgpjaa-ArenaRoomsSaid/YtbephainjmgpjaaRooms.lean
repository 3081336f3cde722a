/- ArenaRooms: places one behind the other as long as there is room; what is refused turns nothing; words stay. The walk. -/
import Derived.Test.YtbephainjmgpjaaAwake11
import Derived.Test.YtbephainjmgpjaaPlace
import Derived.WalkMore
namespace Go.Proofs.YtbephainjmgpjaaRooms
open Go.RowKit Go.Proofs.YtbephainjmgpjaaW.PrintWords Go.Proofs.YtbephainjmgpjaaW.PrintLast Go.Proofs.YtbephainjmgpjaaW.PrintMore Go.Proofs.YtbephainjmgpjaaMem Go.Proofs.YtbephainjmgpjaaBits Go.Proofs Go.Proofs.YtbephainjmgpjaaAr Go.Proofs.YtbephainjmgpjaaPl
attribute [local go_sem] max2_int min2_int max_two min_two max_three min_three max_four min_four
set_option linter.unusedVariables false
set_option linter.unusedSimpArgs false

/-- 1, 2, .. u. -/
def upTo (u : Nat) : List Int := (List.range u).map fun (i : Nat) => ((i : Int) + 1)
theorem upTo_length (u : Nat) : (upTo u).length = u := by simp [upTo]
theorem upTo_getD (u i : Nat) (h : i < u) : (upTo u).getD i 0 = (i : Int) + 1 := by
  simp [upTo, List.getD_eq_getElem?_getD, h]
/-- A slice of whole numbers that came in: its elements. -/
def InRow (w : World) (a : Option Addr) (n c : Nat) (xs : List Int) : Prop := ReadsInt w .i64 a n xs ∧ n ≤ c
/-- The list within a round of Set's: j of k are laid. -/
def mid (u k j : Nat) : List Int := upTo (u + j) ++ List.replicate (k - j) 0
theorem mid_length (u k j : Nat) (h : j ≤ k) : (mid u k j).length = u + k := by simp [mid, upTo_length]; omega
theorem mid_zero (u k : Nat) : mid u k 0 = upTo u ++ List.replicate k 0 := rfl
theorem mid_full (u k : Nat) : mid u k k = upTo (u + k) := by simp [mid]
theorem mid_set (u k j : Nat) (h : j < k) : setA (mid u k j) ((u : Int) + j) ((u : Int) + j + 1) = mid u k (j + 1) := by
  rw [show ((u : Int) + j) = ((u + j : Nat) : Int) from by omega]
  unfold setA
  rw [if_pos (by rw [mid_length u k j (by omega)]; omega), Int.toNat_natCast]
  unfold mid
  have hr : List.replicate (k - j) (0 : Int) = 0 :: List.replicate (k - (j + 1)) 0 := by
    rw [show k - j = (k - (j + 1)) + 1 from by omega, List.replicate_succ]
  have hu : upTo (u + (j + 1)) = upTo (u + j) ++ [((u + j + 1 : Nat) : Int)] := by
    unfold upTo
    rw [show u + (j + 1) = (u + j) + 1 from by omega, List.range_succ, List.map_append]
    simp
  rw [hr, hu, List.set_append_right _ _ (by rw [upTo_length]; exact Nat.le_refl _), upTo_length]
  simp
theorem word_upTo (u i : Nat) (h : i < u) : wordA (upTo u) (i : Int) = (i : Int) + 1 := by
  unfold wordA
  rw [if_pos (by rw [upTo_length]; omega), Int.toNat_natCast, upTo_getD u i h]
theorem word_out (u : Nat) : wordA (upTo u) (u : Int) = 0 := by
  unfold wordA; rw [if_neg (by rw [upTo_length]; omega)]
theorem word_neg (l : List Int) : wordA l (-1) = 0 := by unfold wordA; rw [if_neg (by omega)]

set_option maxHeartbeats 8000000 in
set_option maxRecDepth 100000 in
theorem law_calls (size : Int) (a : Option Addr) (len cap : Nat) (xs : List Int) (w : World) (hr : InRow w a len cap xs) :
    Calls Try.prog 5 #[.int .i64 size, .slice a len cap] w fun e w' => e = .returned (.bool true) ∧ Below w.heap.size w w' := by
  obtain ⟨n, hn⟩ : ∃ n : Nat, size % 200 = n := ⟨(size % 200).toNat, by omega⟩
  have hn200 : n < 200 := by omega
  have HN := Aside0.mk hn
  have HR := Aside0.mk hr
  clear hn hr
  go_enter Try.func5, Try.ntmps5
  go_wp2_with fail
  refine (place_calls size 200 _ (by omega) (by omega)).mono ?_
  rw [HN.out]
  rintro e w0 ⟨rfl, n0, rfl⟩
  go_wp2_with fail
  refine (new_calls (n : Int) _).mono ?_
  rintro e w1 ⟨rfl, ha, hb⟩
  rw [show sizeA (n : Int) = n from by unfold sizeA; (repeat' split) <;> omega] at ha
  have hg : w.heap.size ≤ (w.drewN n0).heap.size + 1 := by show w.heap.size ≤ w.heap.size + 1; omega
  have hgw : w.heap.size ≤ (w.drewN n0).heap.size := Nat.le_refl _
  have hb1 : Below w.heap.size w w1 := (pw_below_drewN (Below.refl _ w) n0).trans hb
  generalize (w.drewN n0).heap.size + 1 = g at ha hg ⊢
  generalize (w.drewN n0).heap.size = gw at ha hgw
  have HB := Aside0.mk hb1
  have HG := Aside0.mk hg
  have HGW := Aside0.mk hgw
  have HA := Aside0.mk ha
  clear hb hg hgw ha hb1
  go_wp2_with fail
  go_loopg [7, 8] 41 (fun k v7 v8 wr => ∃ u i : Nat, v7 = .int .i64 u ∧ v8 = .int .i64 i ∧ i ≤ 40 ∧ k = 41 - i ∧ u ≤ n ∧ Aside0 (Ar wr g gw (upTo u) n) ∧ Aside0 (Below w.heap.size w wr))
  case atStart => exact ⟨0, 0, rfl, rfl, by omega, rfl, by omega, ⟨by have := HA.out; exact this⟩, HB⟩
  case round =>
    clear HA HB
    obtain ⟨u, i, rfl, rfl, hi, rfl, hu, HA, HB⟩ := hrel
    by_cases hlt : i < len ∧ i < 40
    · obtain ⟨hl1, hl2⟩ := hlt
      obtain ⟨ad, ea, hc⟩ := HR.out.1.at_ (i : Int) (by omega) (by omega)
      subst ea
      rw [Int.toNat_natCast] at hc
      have hcw : wr.cell? (ad.add i) = some (.int .i64 (rd xs i)) := (HB.out.cell (World.block_lt_of_cell? w _ hc)).trans hc
      clear hc
      obtain ⟨kk, hk⟩ : ∃ kk : Nat, rd xs i % 12 = kk := ⟨(rd xs i % 12).toNat, by omega⟩
      have hk12 : kk < 12 := by omega
      have HK := Aside0.mk hk
      clear hk
      generalize rd xs i = x at hcw HK
      have b1 : (i : Int) < (len : Int) := by omega
      have b2 : (i : Int) < 40 := by omega
      go_wp2_with fail
      refine (place_calls x 12 _ (by omega) (by omega)).mono ?_
      rw [HK.out]
      rintro e w2 ⟨rfl, n2, rfl⟩
      by_cases hroom : (kk : Int) ≤ (n : Int) - u
      · have C := alloc_calls (wr.drewN n2) g gw n (upTo u) kk (Ar.drewN HA.out n2)
        have e1 : okA (upTo u) n kk = true := by unfold okA; rw [upTo_length]; simp; omega
        rw [show resA (upTo u) n kk = mid u kk 0 from by unfold resA; rw [e1, mid_zero]; simp, show atA (upTo u) n kk = (u : Int) from by unfold atA; rw [e1, upTo_length]; rfl, e1] at C
        have HC := Aside0.mk C
        clear C e1
        have hd : decide ((kk : Int) ≤ (n : Int) - u) = true := decide_eq_true hroom
        go_wp2_with fail
        refine HC.out.mono ?_
        rintro e w3 ⟨rfl, ha, hm⟩
        have HA3 := Aside0.mk ha
        have HB3 := Aside0.mk (below_mods (pw_below_drewN HB.out n2) hm (pw_below_drewN HB.out n2).size (fun q hq => by rw [hq]; exact HG.out))
        clear ha hm HC HA HB
        go_wp2_with fail
        go_loopg [12] 13 (fun k v12 w4 => ∃ j : Nat, v12 = .int .i64 j ∧ j ≤ kk ∧ k = 13 - j ∧ Aside0 (Ar w4 g gw (mid u kk j) n) ∧ Aside0 (Below w.heap.size w w4))
        case atStart => exact ⟨0, rfl, by omega, rfl, HA3, HB3⟩
        case round =>
          clear HA3 HB3
          obtain ⟨j, rfl, hj, rfl, HA4, HB4⟩ := hrel
          by_cases hjlt : j < kk
          · have C := set_calls wr g gw n (mid u kk j) ((u : Int) + j) ((u : Int) + j + 1) HA4.out (by omega) (by omega)
            rw [mid_set u kk j hjlt] at C
            have HC := Aside0.mk C
            clear C
            go_wp2_with fail
            refine HC.out.mono ?_
            rintro e w5 ⟨rfl, ha, hm⟩
            have HA5 := Aside0.mk ha
            have HB5 := Aside0.mk (below_mods HB4.out hm HB4.out.size (fun q hq => by rw [hq]; exact HGW.out))
            clear ha hm HC HA4 HB4
            go_wp2_with fail
            go_roundg (13 - (j + 1))
            case measure => omega
            case rel => exact ⟨j + 1, by go_num, by omega, rfl, HA5, HB5⟩
          · have hje : j = kk := by omega
            subst hje
            have HA5 := Aside0.mk (show Ar wr g gw (upTo (u + j)) n by have := HA4.out; rwa [mid_full] at this)
            clear HA4
            go_wp2_with fail
            go_roundg (41 - (i + 1))
            case measure => omega
            case rel => exact ⟨u + j, i + 1, by go_num, by go_num, by omega, rfl, by omega, HA5, HB4⟩
      · have C := alloc_calls (wr.drewN n2) g gw n (upTo u) kk (Ar.drewN HA.out n2)
        have e1 : okA (upTo u) n kk = false := by unfold okA; rw [upTo_length]; simp; omega
        rw [show resA (upTo u) n kk = upTo u from by unfold resA; rw [e1]; simp, show atA (upTo u) n kk = 0 from by unfold atA; rw [e1]; rfl, e1] at C
        have HC := Aside0.mk C
        clear C e1
        have hd : decide ((kk : Int) ≤ (n : Int) - u) = false := decide_eq_false hroom
        go_wp2_with fail
        refine HC.out.mono ?_
        rintro e w3 ⟨rfl, ha, hm⟩
        have HA3 := Aside0.mk ha
        have HB3 := Aside0.mk (below_mods (pw_below_drewN HB.out n2) hm (pw_below_drewN HB.out n2).size (fun q hq => by rw [hq]; exact HG.out))
        clear ha hm HC HA HB
        go_wp2_with fail
        go_roundg (41 - (i + 1))
        case measure => omega
        case rel => exact ⟨u, i + 1, rfl, by go_num, by omega, rfl, hu, HA3, HB3⟩
    · have hcase : ((i : Int) < (len : Int) ∧ ¬ (i : Int) < 40) ∨ ¬ (i : Int) < (len : Int) := by omega
      clear hlt
      rcases hcase with ⟨b1, b2⟩ | b1
      all_goals
        go_wp2_with fail
        refine (words_calls wr g gw n (upTo u) HA.out).mono ?_
        rintro e w2 ⟨v, rfl, ho, hb⟩
        obtain ⟨A, c, rfl, hrd⟩ := own_reads ho
        rw [upTo_length] at hrd
        rw [upTo_length]
        have HA2 := Aside0.mk (HA.out.below hb)
        have HB2 := Aside0.mk (below_then HB.out HB.out.size hb)
        have HRD := Aside0.mk hrd
        clear ho hb hrd HA HB
        go_wp2_with fail
        go_loopg [14] (u + 1) (fun k v14 w4 => ∃ m : Nat, v14 = .int .i64 m ∧ m ≤ u ∧ k = u + 1 - m ∧ Aside0 (Ar w4 g gw (upTo u) n) ∧ Aside0 (ReadsInt w4 .u64 A u (upTo u)) ∧ Aside0 (Below w.heap.size w w4))
        case atStart => exact ⟨0, rfl, by omega, by omega, HA2, HRD, HB2⟩
        case round =>
          clear HA2 HRD HB2
          obtain ⟨m, rfl, hm, rfl, HA2, HRD, HB2⟩ := hrel
          by_cases hml : m < u
          · obtain ⟨ad, ea, hc⟩ := HRD.out.at_ (m : Int) (by omega) (by omega)
            subst ea
            rw [Int.toNat_natCast, show rd (upTo u) (m : Int) = (m : Int) + 1 from upTo_getD u m hml] at hc
            have b3 : (m : Int) < (u : Int) := by omega
            have hword : ∀ q, Calls Try.prog 25 #[.pointer (some ⟨g, 0, none⟩), .int .i64 m] (wr.drewN q) fun e w' => e = .returned (.int .u64 ((m : Int) + 1)) ∧ ∃ k, w' = (wr.drewN q).drewN k := fun q => by
              have := word_calls (wr.drewN q) g gw n (upTo u) m (Ar.drewN HA2.out q)
              rwa [word_upTo u m hml] at this
            have HWD := Aside0.mk hword
            clear hword
            have q1 : IntKind.i64.wrap ((m : Int) + 1) = (m : Int) + 1 := by rw [IntKind.wrap_i64]; omega
            have q2 : IntKind.u64.wrap ((m : Int) + 1) = (m : Int) + 1 := by rw [wrap_u64]; omega
            go_wp2_with fail
            go_quiet ((go_at_call 25; exact Calls.quiet_of (HWD.out _)))
            clear q1 q2
            go_wp2_with fail
            go_roundg (u + 1 - (m + 1))
            case measure => omega
            case rel => exact ⟨m + 1, by go_num, by omega, rfl, ⟨Ar.drewN HA2.out _⟩, HRD, ⟨pw_below_drewN HB2.out _⟩⟩
          · have hme : m = u := by omega
            subst hme
            have C := alloc_calls wr g gw n (upTo m) (-1) HA2.out
            have e1 : okA (upTo m) n (-1) = false := by unfold okA; simp
            rw [show resA (upTo m) n (-1) = upTo m from by unfold resA; rw [e1]; simp, show atA (upTo m) n (-1) = 0 from by unfold atA; rw [e1]; rfl, e1] at C
            have HC := Aside0.mk C
            clear C e1
            go_wp2_with fail
            refine HC.out.mono ?_
            rintro e w3 ⟨rfl, ha, hmd⟩
            have HA3 := Aside0.mk ha
            have HB3 := Aside0.mk (below_mods HB2.out hmd HB2.out.size (fun q hq => by rw [hq]; exact HG.out))
            clear hmd HC HA2 HB2 ha
            go_wp2_with fail
            refine (used_calls w3 g gw n (upTo m) HA3.out).mono ?_
            rw [upTo_length]
            rintro e wx ⟨rfl, n1, rfl⟩
            go_wp2_with fail
            refine (word_calls _ g gw n (upTo m) (-1) (Ar.drewN HA3.out _)).mono ?_
            rw [word_neg]
            rintro e wx ⟨rfl, n2, rfl⟩
            go_wp2_with fail
            refine (word_calls _ g gw n (upTo m) (m : Int) (Ar.drewN HA3.out _)).mono ?_
            rw [word_out]
            rintro e wx ⟨rfl, n3, rfl⟩
            go_wp2_with fail
            refine (awake_calls _).mono ?_
            rintro e wx ⟨rfl, hb⟩
            have HBL := Aside0.mk (below_then (pw_below_drewN HB3.out _) (pw_below_drewN HB3.out _).size hb)
            clear hb
            go_wp2_with fail
            go_ret
            exact ⟨by first | rfl | (simp; done), HBL.out⟩
end Go.Proofs.YtbephainjmgpjaaRooms
