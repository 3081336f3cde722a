/- MatchNumbers: plain facts and the walk. -/
import Derived.Test.YthdmacdeefohkaaMVal
import Derived.Test.YthdmacdeefohkaaPMa5
namespace Go.Proofs.YthdmacdeefohkaaMNum
open Go.RowKit Go.Proofs.YthdmacdeefohkaaW.PrintWords Go.Proofs.YthdmacdeefohkaaW.PrintLast Go.Proofs.YthdmacdeefohkaaW.PrintMore Go.Proofs.YthdmacdeefohkaaMem Go.Proofs.YthdmacdeefohkaaLeaf Go.Proofs.YthdmacdeefohkaaBits Go.Proofs.Ythdmacdeefohkaa.PMa Go.Proofs.YthdmacdeefohkaaMTerm Go.Proofs.YthdmacdeefohkaaMVal Go.Proofs
set_option linter.unusedVariables false
set_option linter.unusedSimpArgs false
/-- The low i bytes of x, the highest first. -/
def beS (x : Int) : Nat → ByteArray
  | 0 => ⟨#[]⟩
  | i + 1 => strOfNums [x / 256 ^ i % 256] ++ beS x i
theorem beS_size (x : Int) : ∀ i, (beS x i).size = i := by
  intro i
  induction i with
  | zero => rfl
  | succ i ih => simp only [beS, ByteArray.size_append, strOfNums_size, ih]; simp; omega
theorem bt_head (b : Int) (r : ByteArray) (h0 : 0 ≤ b) (h1 : b < 256) : bt (strOfNums [b] ++ r) 0 = b := by
  have hs : (strOfNums [b] ++ r).size = r.size + 1 := by rw [ByteArray.size_append, strOfNums_size]; simp; omega
  unfold bt
  rw [dif_pos (by rw [hs]; simp)]
  have : (strOfNums [b] ++ r)[(0 : Int).toNat]'(by rw [hs]; simp) = UInt8.ofNat b.toNat := by
    rw [ByteArray.getElem_append_left (by rw [strOfNums_size]; simp)]
    rfl
  rw [this]
  simp; omega
theorem bt_tail (b : Int) (r : ByteArray) (j : Nat) : bt (strOfNums [b] ++ r) ((j + 1 : Nat) : Int) = bt r (j : Int) := by
  have hs : (strOfNums [b] ++ r).size = r.size + 1 := by rw [ByteArray.size_append, strOfNums_size]; simp; omega
  unfold bt
  by_cases h : j < r.size
  · rw [dif_pos (by rw [hs]; simp; omega), dif_pos (by simpa using h)]
    congr 2
  · rw [dif_neg (by rw [hs]; simp; omega), dif_neg (by simpa using h)]
theorem bt_be (x : Int) (more : ByteArray) : ∀ k j, j < k → bt (beS x k ++ more) (j : Int) = x / 256 ^ (k - 1 - j) % 256 := by
  intro k
  induction k with
  | zero => intro j h; omega
  | succ k ih =>
    intro j hj
    simp only [beS, ByteArray.append_assoc]
    cases j with
    | zero => rw [show ((0 : Nat) : Int) = 0 from rfl, bt_head _ _ (by omega) (by omega)]; simp
    | succ j => rw [bt_tail, ih j (by omega)]; congr 3; omega
theorem valS_be (x : Int) (more : ByteArray) (k : Nat) (h0 : 0 ≤ x) (h1 : x < 256 ^ k) : ∀ j, j ≤ k → valS (beS x k ++ more) 0 j = x / 256 ^ (k - j) := by
  intro j
  induction j with
  | zero => intro _; simp only [valS, Nat.sub_zero]; exact (Int.ediv_eq_zero_of_lt h0 h1).symm
  | succ j ih =>
    intro hj
    simp only [valS, Nat.zero_add]
    rw [ih (by omega), bt_be x more k j (by omega)]
    obtain ⟨m, hm⟩ : ∃ m, k - j = m + 1 := ⟨k - j - 1, by omega⟩
    rw [hm, show k - 1 - j = m by omega, show k - (j + 1) = m by omega, Int.pow_succ, ← Int.ediv_ediv_of_nonneg (Int.le_of_lt (Int.pow_pos (by omega)))]
    omega
theorem place_any (x : Int) (m : Nat) (h0 : 0 < m) (h1 : m ≤ 4611686018427387904) : ∃ t : Nat, relictlaw00_Place.f x (m : Int) = some (t : Int) ∧ t < m := by
  have hb : -(m : Int) < Int.tmod x m ∧ Int.tmod x m < m := by
    have e := Int.emod_lt_of_pos x (show (0 : Int) < (m : Int) by omega)
    have e' := Int.emod_lt_of_pos (-x) (show (0 : Int) < (m : Int) by omega)
    have f := Int.emod_nonneg x (show (m : Int) ≠ 0 by omega)
    have f' := Int.emod_nonneg (-x) (show (m : Int) ≠ 0 by omega)
    rcases Int.le_total 0 x with h | h
    · rw [Int.tmod_eq_emod_of_nonneg h]; omega
    · have : Int.tmod x m = -((-x) % m) := by rw [← Int.tmod_eq_emod_of_nonneg (by omega), Int.neg_tmod, Int.neg_neg]
      rw [this]; omega
  unfold relictlaw00_Place.f
  rw [if_neg (by omega)]
  split
  · refine ⟨(Int.tmod x m + m).toNat, ?_, by omega⟩
    unfold wrap64; congr 1; omega
  · refine ⟨(Int.tmod x m).toNat, ?_, by omega⟩
    congr 1; omega
set_option maxHeartbeats 8000000 in
set_option maxRecDepth 100000 in
theorem law_calls (v n : Int) (more : ByteArray) (w : World) :
    Calls Try.prog 5 #[.int .i64 v, .int .i64 n, .string more] w fun e w' => e = .returned (.bool true) ∧ Below w.heap.size w w' := by
  have hu45 := Try.underlying45
  have hfS := field_S
  have hf0 := field_0
  obtain ⟨t7, hP, ht7⟩ := place_any n 7 (by omega) (by omega)
  have HP := Aside0.mk (relictlaw00_Place.calls n 7 (t7 : Int) w hP)
  have e1 : IntKind.i64.wrap (1 + (t7 : Int)) = ((t7 + 1 : Nat) : Int) := by rw [IntKind.wrap_i64]; omega
  clear hP
  go_enter Try.func5, Try.ntmps5
  go_wp2_with fail
  refine HP.out.mono ?_
  rintro e w1 ⟨rfl, hb⟩
  have HB := Aside0.mk hb.below
  clear hb HP
  go_wp2_with fail
  obtain ⟨M, hM⟩ : ∃ M : Nat, 256 ^ (t7 + 1) = M := ⟨_, rfl⟩
  have hM1 : 0 < M ∧ M ≤ 72057594037927936 := by
    have : t7 = 0 ∨ t7 = 1 ∨ t7 = 2 ∨ t7 = 3 ∨ t7 = 4 ∨ t7 = 5 ∨ t7 = 6 := by omega
    rcases this with rfl | rfl | rfl | rfl | rfl | rfl | rfl <;> (rw [← hM]; decide)
  have hshl : wrap64 (2 ^ (8 * (t7 + 1))) = (M : Int) := by
    have e : (2 : Int) ^ (8 * (t7 + 1)) = (M : Int) := by rw [Int.pow_mul, ← hM]; simp
    rw [e]; unfold wrap64; omega
  rw [hshl]
  obtain ⟨x, hX, hx⟩ := place_any v M (by omega) (by omega)
  have HP := Aside0.mk (relictlaw00_Place.calls v (M : Int) (x : Int) w1 hX)
  have HM := Aside0.mk hM
  have HX := Aside0.mk hx
  clear hX hshl hM
  go_wp2_with fail
  refine HP.out.mono ?_
  rintro e w2 ⟨rfl, hb⟩
  have HB2 := Aside0.mk (below_step HB.out hb.below)
  clear hb HP HB
  go_wp2_with fail
  go_loopg [9, 10] (t7 + 2) (fun g v9 v10 wr => ∃ i : Nat, v9 = .string (beS x i) ∧ v10 = .int .i64 i ∧ i ≤ t7 + 1 ∧ g = t7 + 2 - i ∧ Aside0 (Below w.heap.size w wr))
  case atStart => exact ⟨0, rfl, rfl, by omega, rfl, HB2⟩
  case round =>
    clear HB2
    obtain ⟨i, rfl, rfl, hi, rfl, HB⟩ := hrel
    by_cases hlt : i < t7 + 1
    · have b1 : (i : Int) < (t7 : Int) + 1 := by omega
      have e2 : IntKind.i64.wrap (8 * (i : Int)) = ((8 * i : Nat) : Int) := by rw [IntKind.wrap_i64]; omega
      obtain ⟨y, hy⟩ : ∃ y, (x : Int) / 2 ^ (8 * i) % 256 = y := ⟨_, rfl⟩
      have hbe : beS (x : Int) (i + 1) = strOfNums [y] ++ beS (x : Int) i := by
        simp only [beS]; rw [← hy, show (256 : Int) ^ i = 2 ^ (8 * i) by rw [Int.pow_mul]; simp]
      have hcv : (convert 39 9 (.slice (some ⟨wr.heap.size, 0, none⟩) 1 1)).run Try.prog (wr.alloc (.cells #[.int .u8 y] 5)) = .ok (.string (strOfNums [y])) (wr.alloc (.cells #[.int .u8 y] 5)) :=
        string_of_reads Try.underlying39 Try.underlying5 Try.underlying9 (reads_blk (xs := [y]) (heap_alloc_new wr (.cells (nums .u8 [y]).toArray 5)) 1 (by simp) (by omega))
      have HB2 := Aside0.mk (below_alloc HB.out (.cells #[.int .u8 y] 5))
      have hsz : (strOfNums [y]).size + (beS (x : Int) i).size ≤ 9223372036854775807 := by rw [strOfNums_size, beS_size]; simp; omega
      have HBE := Aside0.mk hbe
      clear hbe HB
      go_wp2_with fail
      go_roundg (t7 + 2 - (i + 1))
      case measure => omega
      case rel => exact ⟨i + 1, by rw [HBE.out], by go_num, by omega, rfl, HB2⟩
    · have hie : i = t7 + 1 := by omega
      subst hie
      have b1 : ¬ ((t7 + 1 : Nat) : Int) < (t7 : Int) + 1 := by omega
      have hsz : (beS (x : Int) (t7 + 1)).size = t7 + 1 := beS_size _ _
      have HA := Aside0.mk (awake_own wr)
      by_cases hm : (more.size : Int) > 300
      · go_wp2_with fail
        refine HA.out.mono ?_
        rintro e w3 ⟨rfl, hb⟩
        have HB3 := Aside0.mk (below_step HB.out hb)
        clear hb
        go_wp2_with fail
        go_ret
        exact ⟨rfl, HB3.out⟩
      · obtain ⟨S, hS⟩ : ∃ S, beS (x : Int) (t7 + 1) ++ more = S := ⟨_, rfl⟩
        have hSs : S.size = t7 + 1 + more.size := by rw [← hS, ByteArray.size_append, hsz]
        have hms : more.size ≤ 300 := by omega
        have hsum : (beS (x : Int) (t7 + 1)).size + more.size ≤ 9223372036854775807 := by omega
        have HC := Aside0.mk (match_Start.calls 6 false none 0 [] S 0 none 0 [] 8 false [] S 0 [] true wr (Kd.C_nil _ _) (by simp) (Kd.C_nil _ _) (by simp) (by rfl))
        have hval : valS S 0 (t7 + 1) = (x : Int) := by
          rw [← hS, valS_be (x : Int) more (t7 + 1) (by omega) (by have := HX.out; have := HM.out; rw [← HM.out] at *; exact_mod_cast HX.out) (t7 + 1) (Nat.le_refl _)]
          simp
        have hext : S.extract (t7 + 1) S.size = more := by
          have q : ∀ a : ByteArray, a.size = t7 + 1 → (a ++ more).extract (t7 + 1) (t7 + 1 + more.size) = more := fun a ha => by rw [← ha]; exact ByteArray.extract_append_eq_right rfl rfl
          rw [hSs, ← hS]
          exact q _ hsz
        have hTs : (⟨8, ⟨false, []⟩, S, 0, []⟩ : S45).f2.size ≤ 1000000 := by show S.size ≤ 1000000; omega
        have hat0 : atP ⟨8, ⟨false, []⟩, S, 0, []⟩ = 0 := by unfold atP mx mn; simp only; (repeat' split) <;> omega
        have hN := number_yes ⟨8, ⟨false, []⟩, S, 0, []⟩ rfl hTs (t7 + 1) (by omega) (by omega) (by rw [hat0]; show 0 + (t7 + 1) ≤ S.size; omega)
        rw [hat0] at hN
        simp only at hN
        rw [hval, Nat.zero_add, show ((t7 + 1 : Nat) : Int) = (t7 : Int) + 1 from by omega] at hN
        have HN := Aside0.mk hN
        have HN8 := Aside0.mk (number_no ⟨8, ⟨false, []⟩, S, 0, []⟩ hTs 8 (.inr (.inr (.inl (by omega)))) 0)
        have HN0 := Aside0.mk (number_no ⟨8, ⟨false, []⟩, S, 0, []⟩ hTs 0 (.inr (.inl (by omega))) 0)
        have hLt := left_any ⟨8, ⟨false, []⟩, S, 0, []⟩ rfl hTs
        rw [hat0] at hLt
        have hatm : atP ⟨8, ⟨false, []⟩, S, ((t7 + 1 : Nat) : Int), []⟩ = t7 + 1 := by unfold atP mx mn; simp only; (repeat' split) <;> omega
        have hLm := left_any ⟨8, ⟨false, []⟩, S, ((t7 + 1 : Nat) : Int), []⟩ rfl hTs
        rw [hatm] at hLm
        simp only [show ((t7 + 1 : Nat) : Int) = (t7 : Int) + 1 from by omega] at hLm
        have hRm : match_Rest.f 8 false [] S ((t7 + 1 : Nat) : Int) [] = some (6, false, [], more, 0, []) := by
          unfold match_Rest.f
          rw [if_pos rfl]
          have := at_any ⟨8, ⟨false, []⟩, S, ((t7 + 1 : Nat) : Int), []⟩
          rw [hatm] at this
          simp only at this
          rw [this, bindS, if_pos (by omega), if_pos (by omega), Int.toNat_natCast, hext]
        rw [show ((t7 + 1 : Nat) : Int) = (t7 : Int) + 1 from by omega] at hRm
        have HF := Aside0.mk (And.intro hLt (And.intro hLm hRm))
        have hx63 : (x : Int) < 9223372036854775808 := by have := HX.out; omega
        have hi1 := i1_tells 1 (x : Int) (by omega) hx63
        have HI1 := Aside0.mk hi1
        have HSS := Aside0.mk (And.intro hSs hms)
        clear hval hext hSs hN hLt hLm hRm hi1 hat0 hatm hTs HA
        obtain ⟨L, hL⟩ : ∃ L, limbs (x : Int) = L := ⟨_, rfl⟩
        have HSAME := Aside0.mk (same_self 1 false L (by rw [← hL]; exact limbs_len _) ⟨#[]⟩ 0)
        rw [hL] at HN HI1
        clear hL
        go_wp2_with fail
        refine HC.out.mono ?_
        rintro e w3 ⟨v2, v5, rfl, q2, q5, hb⟩
        obtain ⟨D2, d2, rfl⟩ := Kd.R_slice q2
        obtain ⟨D5, d5, rfl⟩ := Kd.R_slice q5
        obtain ⟨W3, hW3⟩ : ∃ W3, w3.alloc (.cells #[.int .i64 8, .bool false, .slice D2 0 d2, .string S, .int .i64 0, .slice D5 0 d5] 45) = W3 := ⟨_, rfl⟩
        obtain ⟨g1, hg1⟩ : ∃ g1, w3.heap.size = g1 := ⟨_, rfl⟩
        have B3 : Box w W3 g1 ⟨8, ⟨false, []⟩, S, 0, []⟩ D2 d2 D5 d5 := by rw [← hW3, ← hg1]; exact box1 (below_step HB.out hb) (lies_of q2 q5)
        have HCN := Aside0.mk (match_Number.calls _ 8 false D2 d2 [] S 0 D5 d5 [] _ _ _ _ _ _ _ _ _ _ _ _ _ _ W3 B3.2.1.1 B3.2.1.2.1 B3.2.1.2.2.1 B3.2.1.2.2.2 HN.out)
        have BT3 := Aside0.mk B3
        have bb := B3.cells
        dsimp only [List.length_nil] at bb
        obtain ⟨b0, b1, b2, b3, b4, b5⟩ := bb
        clear B3 hb q2 q5 HC HB
        go_wp2_with fail
        refine HCN.out.mono ?_
        rintro e w4 ⟨v2, v5, v8, v11, rfl, q2, q5, q8, q11, hb⟩
        obtain ⟨E2, e2', rfl⟩ := Kd.R_slice q2
        obtain ⟨E5, e5, rfl⟩ := Kd.R_slice q5
        obtain ⟨E8, e8, rfl⟩ := Kd.R_slice q8
        obtain ⟨E11, e11, rfl⟩ := Kd.R_slice q11
        obtain ⟨W4, hW4⟩ : ∃ W4, (w4.alloc (.cells #[.int .i64 1, .bool false, (.slice E2 L.length e2'), .string (⟨#[]⟩ : ByteArray), .int .i64 0, .slice E5 0 e5] 45)).alloc (.cells #[.int .i64 8, .bool false, .slice E8 0 e8, .string S, .int .i64 ((t7 : Int) + 1), .slice E11 0 e11] 45) = W4 := ⟨_, rfl⟩
        obtain ⟨g2, hg2⟩ : ∃ g2, w4.heap.size = g2 := ⟨_, rfl⟩
        have BB := box2 (below_step BT3.out.2.2 hb) (lies_of (a := 1) (b := false) (s := ⟨#[]⟩) (N := 0) q2 q5) (lies_of (a := 8) (b := false) (s := S) (N := (t7 : Int) + 1) q8 q11)
        have hbW : Below w4.heap.size w4 W4 := by rw [← hW4]; exact below_alloc (below_alloc (Below.refl _ _) _) _
        have BT4 := Aside0.mk ((BT3.out.below hb).below hbW)
        have BA4 := Aside0.mk (show Box w W4 g2 ⟨1, ⟨false, L⟩, ⟨#[]⟩, 0, []⟩ E2 e2' E5 e5 from by rw [← hW4, ← hg2]; exact BB.1)
        have BM4 := Aside0.mk (show Box w W4 (g2 + 1) ⟨8, ⟨false, []⟩, S, (t7 : Int) + 1, []⟩ E8 e8 E11 e11 from by rw [← hW4, ← hg2]; exact BB.2)
        have HC8 := Aside0.mk (match_Number.calls _ 8 false D2 d2 [] S 0 D5 d5 [] 8 _ _ _ _ _ _ _ _ _ _ _ _ _ W4 BT4.out.2.1.1 BT4.out.2.1.2.1 BT4.out.2.1.2.2.1 BT4.out.2.1.2.2.2 HN8.out)
        clear b0 b1 b2 b3 b4 b5 BB hbW hb q2 q5 q8 q11 HCN BT3 hW3 hg1
        have bb := BT4.out.cells
        dsimp only [List.length_nil] at bb
        obtain ⟨b0, b1, b2, b3, b4, b5⟩ := bb
        go_wp2_with fail
        refine HC8.out.mono ?_
        rintro e w5 ⟨v2, v5, v8, v11, rfl, q2, q5, q8, q11, hb⟩
        obtain ⟨F2, f2, rfl⟩ := Kd.R_slice q2
        obtain ⟨F5, f5, rfl⟩ := Kd.R_slice q5
        obtain ⟨F8, f8, rfl⟩ := Kd.R_slice q8
        obtain ⟨F11, f11, rfl⟩ := Kd.R_slice q11
        obtain ⟨W5, hW5⟩ : ∃ W5, (w5.alloc (.cells #[.int .i64 0, .bool false, .slice F2 0 f2, .string (⟨#[]⟩ : ByteArray), .int .i64 0, .slice F5 0 f5] 45)).alloc (.cells #[.int .i64 0, .bool false, .slice F8 0 f8, .string (⟨#[]⟩ : ByteArray), .int .i64 0, .slice F11 0 f11] 45) = W5 := ⟨_, rfl⟩
        have hbW : Below w5.heap.size w5 W5 := by rw [← hW5]; exact below_alloc (below_alloc (Below.refl _ _) _) _
        have BT5 := Aside0.mk ((BT4.out.below hb).below hbW)
        have BA5 := Aside0.mk ((BA4.out.below hb).below hbW)
        have BM5 := Aside0.mk ((BM4.out.below hb).below hbW)
        have HC0 := Aside0.mk (match_Number.calls _ 8 false D2 d2 [] S 0 D5 d5 [] 0 _ _ _ _ _ _ _ _ _ _ _ _ _ W5 BT5.out.2.1.1 BT5.out.2.1.2.1 BT5.out.2.1.2.2.1 BT5.out.2.1.2.2.2 HN0.out)
        clear b0 b1 b2 b3 b4 b5 hbW hb q2 q5 q8 q11 HC8 BT4 BA4 BM4 hW4 hg2
        have bb := BT5.out.cells
        dsimp only [List.length_nil] at bb
        obtain ⟨b0, b1, b2, b3, b4, b5⟩ := bb
        go_wp2_with fail
        refine HC0.out.mono ?_
        rintro e w6 ⟨v2, v5, v8, v11, rfl, q2, q5, q8, q11, hb⟩
        obtain ⟨G2, g2', rfl⟩ := Kd.R_slice q2
        obtain ⟨G5, g5, rfl⟩ := Kd.R_slice q5
        obtain ⟨G8, g8, rfl⟩ := Kd.R_slice q8
        obtain ⟨G11, g11, rfl⟩ := Kd.R_slice q11
        obtain ⟨W6, hW6⟩ : ∃ W6, (w6.alloc (.cells #[.int .i64 0, .bool false, .slice G2 0 g2', .string (⟨#[]⟩ : ByteArray), .int .i64 0, .slice G5 0 g5] 45)).alloc (.cells #[.int .i64 0, .bool false, .slice G8 0 g8, .string (⟨#[]⟩ : ByteArray), .int .i64 0, .slice G11 0 g11] 45) = W6 := ⟨_, rfl⟩
        have hbW : Below w6.heap.size w6 W6 := by rw [← hW6]; exact below_alloc (below_alloc (Below.refl _ _) _) _
        have BT6 := Aside0.mk ((BT5.out.below hb).below hbW)
        have BA6 := Aside0.mk ((BA5.out.below hb).below hbW)
        have BM6 := Aside0.mk ((BM5.out.below hb).below hbW)
        have HCI := Aside0.mk (relictlaw00_I1.calls 1 (x : Int) _ _ _ _ _ _ W6 HI1.out)
        clear b0 b1 b2 b3 b4 b5 hbW hb q2 q5 q8 q11 HC0 BT5 BA5 BM5 hW5
        go_wp2_with fail
        refine HCI.out.mono ?_
        rintro e w7 ⟨v2, v5, rfl, q2, q5, hb⟩
        obtain ⟨H2, h2, rfl⟩ := Kd.R_slice q2
        obtain ⟨H5, h5, rfl⟩ := Kd.R_slice q5
        obtain ⟨W7, hW7⟩ : ∃ W7, w7.alloc (.cells #[.int .i64 1, .bool false, (.slice H2 L.length h2), .string (⟨#[]⟩ : ByteArray), .int .i64 0, .slice H5 0 h5] 45) = W7 := ⟨_, rfl⟩
        obtain ⟨g3, hg3⟩ : ∃ g3, w7.heap.size = g3 := ⟨_, rfl⟩
        have hbW : Below w7.heap.size w7 W7 := by rw [← hW7]; exact below_alloc (Below.refl _ _) _
        have BW7 := Aside0.mk (show Box w W7 g3 ⟨1, ⟨false, L⟩, ⟨#[]⟩, 0, []⟩ H2 h2 H5 h5 from by rw [← hW7, ← hg3]; exact box1 (below_step BT6.out.2.2 hb) (lies_of (a := 1) (b := false) (s := ⟨#[]⟩) (N := 0) q2 q5))
        have BT7 := Aside0.mk ((BT6.out.below hb).below hbW)
        have BA7 := Aside0.mk ((BA6.out.below hb).below hbW)
        have BM7 := Aside0.mk ((BM6.out.below hb).below hbW)
        have HCS := Aside0.mk (relictlaw00_SameTerm.calls 10 1 false E2 e2' L ⟨#[]⟩ 0 E5 e5 [] 1 false H2 h2 L ⟨#[]⟩ 0 H5 h5 [] true W7 BA7.out.2.1.1 BA7.out.2.1.2.1 BA7.out.2.1.2.2.1 BA7.out.2.1.2.2.2 BW7.out.2.1.1 BW7.out.2.1.2.1 BW7.out.2.1.2.2.1 BW7.out.2.1.2.2.2 HSAME.out)
        clear hbW hb q2 q5 HCI BT6 BA6 BM6 hW6
        have bb := BA7.out.cells
        dsimp only [List.length_nil] at bb
        obtain ⟨a0, a1, a2, a3, a4, a5⟩ := bb
        have bb := BW7.out.cells
        dsimp only [List.length_nil] at bb
        obtain ⟨b0, b1, b2, b3, b4, b5⟩ := bb
        go_wp2_with fail
        refine HCS.out.mono ?_
        rintro e w8 ⟨rfl, hb⟩
        have BT8 := Aside0.mk (BT7.out.below hb)
        have BM8 := Aside0.mk (BM7.out.below hb)
        have HCL := Aside0.mk (match_Left.calls 8 false E8 e8 [] S ((t7 : Int) + 1) E11 e11 [] _ w8 BM8.out.2.1.1 BM8.out.2.1.2.1 BM8.out.2.1.2.2.1 BM8.out.2.1.2.2.2 HF.out.2.1)
        clear a0 a1 a2 a3 a4 a5 b0 b1 b2 b3 b4 b5 hb HCS BT7 BA7 BM7 BW7 hW7 hg3
        have bb := BM8.out.cells
        dsimp only [List.length_nil] at bb
        obtain ⟨b0, b1, b2, b3, b4, b5⟩ := bb
        go_wp2_with fail
        refine HCL.out.mono ?_
        rintro e w9 ⟨rfl, hb⟩
        have BT9 := Aside0.mk (BT8.out.below hb)
        have BM9 := Aside0.mk (BM8.out.below hb)
        have HCR := Aside0.mk (match_Rest.calls 8 false E8 e8 [] S ((t7 : Int) + 1) E11 e11 [] _ _ _ _ _ _ w9 BM9.out.2.1.1 BM9.out.2.1.2.1 BM9.out.2.1.2.2.1 BM9.out.2.1.2.2.2 HF.out.2.2)
        have e9 : ((S.size - (t7 + 1) : Nat) : Int) = (more.size : Int) := by have := HSS.out.1; omega
        clear b0 b1 b2 b3 b4 b5 hb HCL BT8 BM8
        have bb := BM9.out.cells
        dsimp only [List.length_nil] at bb
        obtain ⟨b0, b1, b2, b3, b4, b5⟩ := bb
        rw [e9]
        clear e9
        go_wp2_with fail
        refine HCR.out.mono ?_
        rintro e w10 ⟨v2, v5, rfl, q2, q5, hb⟩
        obtain ⟨I2, i2, rfl⟩ := Kd.R_slice q2
        obtain ⟨I5, i5, rfl⟩ := Kd.R_slice q5
        have BT10 := Aside0.mk (BT9.out.below hb)
        have HCT := Aside0.mk (match_Left.calls 8 false D2 d2 [] S 0 D5 d5 [] _ w10 BT10.out.2.1.1 BT10.out.2.1.2.1 BT10.out.2.1.2.2.1 BT10.out.2.1.2.2.2 HF.out.1)
        clear b0 b1 b2 b3 b4 b5 hb q2 q5 HCR BT9 BM9
        have bb := BT10.out.cells
        dsimp only [List.length_nil] at bb
        obtain ⟨b0, b1, b2, b3, b4, b5⟩ := bb
        go_wp2_with fail
        refine HCT.out.mono ?_
        rintro e w11 ⟨rfl, hb⟩
        have HB11 := Aside0.mk (below_step BT10.out.2.2 hb)
        have HA := Aside0.mk (awake_own w11)
        have e9 : ((S.size - 0 : Nat) : Int) = (t7 : Int) + 1 + (more.size : Int) := by have := HSS.out.1; omega
        have e10 : IntKind.i64.wrap ((t7 : Int) + 1 + (more.size : Int)) = (t7 : Int) + 1 + (more.size : Int) := by rw [IntKind.wrap_i64]; omega
        clear b0 b1 b2 b3 b4 b5 hb HCT BT10
        simp only [e9]
        clear e9
        go_wp2_with fail
        refine HA.out.mono ?_
        rintro e w12 ⟨rfl, hb⟩
        have HB12 := Aside0.mk (below_step HB11.out hb)
        clear hb
        go_wp2_with fail
        go_ret
        exact ⟨rfl, HB12.out⟩
end Go.Proofs.YthdmacdeefohkaaMNum
