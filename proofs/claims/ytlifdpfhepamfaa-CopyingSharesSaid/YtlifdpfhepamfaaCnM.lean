/- Proper, relictlaw13.awake, CopyingNone. -/
import Derived.Test.YtlifdpfhepamfaaHw
import Derived.Test.YtlifdpfhepamfaaCyM
import Derived.Test.YtlifdpfhepamfaaHv
import Derived.Deep.RegionHeld3
import Derived.Test.YtlifdpfhepamfaaPlace
import Derived.Test.YtlifdpfhepamfaaPHe18
namespace Go.Proofs.YtlifdpfhepamfaaPr
open Go.RowKit Go.Maps Go.Proofs.YtlifdpfhepamfaaW.PrintWords Go.Proofs.YtlifdpfhepamfaaW.PrintLast Go.Proofs.YtlifdpfhepamfaaW.PrintMore Go.Proofs.YtlifdpfhepamfaaMem Go.Proofs.YtlifdpfhepamfaaLeaf Go.Proofs.YtlifdpfhepamfaaBits Go.Proofs.Ytlifdpfhepamfaa.PHe Go.Proofs.YtlifdpfhepamfaaRow Go.Proofs.YtlifdpfhepamfaaHt Go.Proofs.YtlifdpfhepamfaaHw Go.Proofs
set_option linter.unusedVariables false
set_option linter.unusedSimpArgs false
abbrev LT := Int × Bool × List Int × ByteArray × Int × List TT
def six_ (x : TT) : LT := (x.f0, x.f1.f0, x.f1.f1, x.f2, x.f3, x.f4)
theorem int_f (k : Nat) (v : Int) (h : -9223372036854775808 ≤ v ∧ v < 9223372036854775808) : relictref19_Int.f k v = some (six_ (IN v)) := by
  unfold relictref19_Int.f relictref02_Of.f
  rw [if_pos h]
  rfl
theorem LI_cons (v : Int) (vs : List Int) : LI (v :: vs) = ⟨4, ⟨false, []⟩, ⟨#[]⟩, 0, [IN v, LI vs]⟩ := rfl
theorem eta_ (x : TT) : (⟨x.f0, ⟨x.f1.f0, x.f1.f1⟩, x.f2, x.f3, x.f4⟩ : TT) = x := by cases x; rfl
theorem list_l (xs : List Int) : ∀ (i k : Nat) (ys : List Int), i < k → i ≤ xs.length → xs.length ≤ 1000 →
    relictref03_List.l0 k (xs.map IN) ((i : Int) - 1) (LI ys).f0 (LI ys).f1.f0 (LI ys).f1.f1 (LI ys).f2 (LI ys).f3 (LI ys).f4 = some (six_ (LI (xs.take i ++ ys)))
  | 0, k + 1, ys, _, _, _ => by
    unfold relictref03_List.l0
    rw [if_neg (by omega)]
    rfl
  | i + 1, k + 1, ys, hk, hi, hl => by
    unfold relictref03_List.l0
    have e1 : ((i + 1 : Nat) : Int) - 1 = (i : Int) := by omega
    have e2 : wrap64 ((i : Int) - 1) = (i : Int) - 1 := by unfold wrap64; omega
    have e3 : rd_T43 (xs.map IN) (i : Int) = IN (xs.getD i 0) := by
      unfold rd_T43
      rw [Int.toNat_natCast, List.getD_eq_getElem?_getD, List.getElem?_map, List.getD_eq_getElem?_getD, List.getElem?_eq_getElem (by omega)]
      rfl
    have ih := list_l xs i k (xs.getD i 0 :: ys) (by omega) (by omega) hl
    have e4 : xs.take i ++ (xs.getD i 0 :: ys) = xs.take (i + 1) ++ ys := by
      have hg : xs.getD i 0 = xs[i]'(by omega) := by rw [List.getD_eq_getElem?_getD, List.getElem?_eq_getElem (by omega)]; rfl
      rw [List.take_add_one, List.getElem?_eq_getElem (by omega), hg, List.append_assoc]
      rfl
    rw [e4, LI_cons] at ih
    rw [e1, if_pos (by omega), if_pos (by omega), if_pos (by rw [List.length_map]; omega), e2, e3, eta_, eta_]
    exact ih
theorem list_f (xs : List Int) (k : Nat) (hk : xs.length < k) (hl : xs.length ≤ 1000) : relictref03_List.f k (xs.map IN) 3 false ([] : List Int) (⟨#[]⟩ : ByteArray) 0 ([] : List TT) = some (six_ (LI xs)) := by
  unfold relictref03_List.f
  have h := list_l xs xs.length k [] hk (Nat.le_refl _) hl
  rw [List.take_length, List.append_nil] at h
  rw [List.length_map, show wrap64 ((xs.length : Int) - 1) = (xs.length : Int) - 1 by unfold wrap64; omega]
  exact h
theorem proper_l (xs : List Int) (hI : I64 xs) (hl : xs.length ≤ 60) : ∀ (d i k : Nat), i + d = xs.length → d + xs.length + 2 ≤ k → relictlaw00_Proper.l0 k xs ((xs.take i).map IN) (i : Int) = some (six_ (LI xs))
  | 0, i, k + 1, hi, hk => by
    unfold relictlaw00_Proper.l0
    rw [if_neg (by omega), show xs.take i = xs by rw [List.take_of_length_le (by omega)], list_f xs k (by omega) (by omega)]
    rfl
  | d + 1, i, k + 1, hi, hk => by
    unfold relictlaw00_Proper.l0
    have hx : rd xs (i : Int) = xs.getD i 0 := by unfold rd; rw [Int.toNat_natCast]
    have hm : xs.getD i 0 ∈ xs := by
      rw [List.getD_eq_getElem?_getD, List.getElem?_eq_getElem (by omega)]
      exact List.getElem_mem _
    rw [if_pos (by omega), if_pos (by omega), if_pos (by omega), hx, int_f k _ (hI _ hm)]
    simp only [Option.bind_some]
    rw [if_pos (by rw [List.length_map, List.length_take]; omega), show wrap64 ((i : Int) + 1) = ((i + 1 : Nat) : Int) by unfold wrap64; omega]
    have ih := proper_l xs hI hl d (i + 1) k (by omega) (by omega)
    have e4 : (xs.take (i + 1)).map IN = (xs.take i).map IN ++ [IN (xs.getD i 0)] := by
      have hg : xs.getD i 0 = xs[i]'(by omega) := by rw [List.getD_eq_getElem?_getD, List.getElem?_eq_getElem (by omega)]; rfl
      rw [List.take_add_one, List.map_append, List.getElem?_eq_getElem (by omega), hg]
      rfl
    rw [e4] at ih
    exact ih
/-- A list of numbers, no more than sixty. -/
theorem proper_f (xs : List Int) (hI : I64 xs) (hl : xs.length ≤ 60) : relictlaw00_Proper.f 200 xs = some ((LI xs).f0, (LI xs).f1.f0, (LI xs).f1.f1, (LI xs).f2, (LI xs).f3, (LI xs).f4) := by
  unfold relictlaw00_Proper.f
  exact proper_l xs hI hl xs.length 0 200 (by omega) (by omega)
end Go.Proofs.YtlifdpfhepamfaaPr
namespace Go.Proofs.YtlifdpfhepamfaaCa
open Go.RowKit Go.Maps Go.Proofs.YtlifdpfhepamfaaW.PrintWords Go.Proofs.YtlifdpfhepamfaaW.PrintLast Go.Proofs.YtlifdpfhepamfaaW.PrintMore Go.Proofs.YtlifdpfhepamfaaMem Go.Proofs.YtlifdpfhepamfaaLeaf Go.Proofs.YtlifdpfhepamfaaBits Go.Proofs.Ytlifdpfhepamfaa.PHe Go.Proofs.YtlifdpfhepamfaaRow Go.Proofs.YtlifdpfhepamfaaAr Go.Proofs.YtlifdpfhepamfaaHp Go.Proofs.YtlifdpfhepamfaaHo Go.Proofs.YtlifdpfhepamfaaHt Go.Proofs.YtlifdpfhepamfaaHw Go.Proofs.YtlifdpfhepamfaaHu Go.Proofs.YtlifdpfhepamfaaHv Go.Proofs.YtlifdpfhepamfaaWd Go.Proofs.YtlifdpfhepamfaaCp Go.Proofs.YtlifdpfhepamfaaCm Go.Proofs.YtlifdpfhepamfaaQr Go.Proofs.YtlifdpfhepamfaaCl Go.Proofs.YtlifdpfhepamfaaCk Go.Proofs.YtlifdpfhepamfaaCc Go.Proofs.YtlifdpfhepamfaaCr Go.Proofs
set_option linter.unusedVariables false
set_option linter.unusedSimpArgs false
def T6 : Bool × List (List Nat × List Nat) := (true, [([], []), ([0], [0]), ([1], [1]), ([1, 2], [1, 2]), ([3, 1], [3]), ([4], [4]), ([5, 4], [4, 5]), ([6, 4], [4, 6]), ([4, 7], [4, 7]), ([8, 4], [8]), ([9], [9]), ([10, 9], [9, 10]), ([11, 9], [9, 11]), ([9], [9]), ([13, 9], [9, 13]), ([14, 9], [9, 14]), ([12, 15, 9], [9, 12, 15]), ([9, 16], [9, 16]), ([17, 9], [17]), ([18], [18]), ([19, 18], [18, 19]), ([20, 18], [18, 20]), ([21, 18], [18, 21]), ([22, 18], [18, 22]), ([18, 23], [18, 23]), ([24, 18], [24]), ([25], [25]), ([26, 25], [25, 26]), ([27, 25], [25, 27]), ([28, 25], [25, 28]), ([29, 25, 25], [25, 29]), ([30, 25], [25, 30]), ([25, 31], [25, 31]), ([32, 30], [32]), ([33], [33]), ([33], [33]), ([34, 35, 33, 33], [33, 34, 35]), ([36, 33], [33, 36]), ([33, 37], [33, 37]), ([38, 36, 0, 1, 2, 3, 4, 5, 6, 7, 8, 9, 10, 11, 12, 13, 14, 15, 16, 17, 18, 19, 20, 21, 22, 23, 24, 25, 26, 27, 28, 29, 30, 31, 32, 33, 34, 35, 36, 37, 38], [38])])
def B6 : List Nat := [0, 1, 3, 7, 15, 31, 63, 127, 255, 511, 1023, 2047, 4095, 1023, 9215, 25599, 65535, 131071, 262143, 524287, 1048575, 2097151, 4194303, 8388607, 16777215, 33554431, 67108863, 134217727, 268435455, 536870911, 1073741823, 2147483647, 4294967295, 8589934591, 17179869183, 17179869183, 68719476735, 137438953471, 274877906943, 549755813887]
theorem tab6 : rtab .any (opsOf Try.f31 6) = T6 := by kernel_rfl
theorem bits6 : waitsOk T6.2 B6 = true := by kernel_rfl
theorem proper12 : relictlaw00_Proper.f 10 [1, 2] = some ((LI [1, 2]).f0, (LI [1, 2]).f1.f0, (LI [1, 2]).f1.f1, (LI [1, 2]).f2, (LI [1, 2]).f3, (LI [1, 2]).f4) := by kernel_rfl
theorem put12 : putLw [1, 2] [] = [35, 11, 19, 1] ∧ putWw [1, 2] [] = 9 ∧ wL [1, 2] = 4 := ⟨by kernel_rfl, by kernel_rfl, by kernel_rfl⟩
theorem sz4 : sizeA 4 = 4 := by kernel_rfl
theorem roots12 : rootsF [35, 11, 19, 1] 4 [9, 9] [] [] [] = some ([1, 1], [19, 1], [(2, 0)]) := by kernel_rfl
theorem scan12 : scanF [35, 11, 19, 1] 4 5 0 [19, 1] [(2, 0)] = some ([19, 9, 35, 11], [(0, 2), (2, 0)]) := by kernel_rfl
theorem roots13 : rootsR [19, 9, 35, 11] [1, 1] 0 [] [] = some (2, [0], [0]) := by kernel_rfl
theorem bfs13 : bfsR [19, 9, 35, 11] 5 2 [0] [0] = some 4 := by kernel_rfl
set_option maxHeartbeats 8000000 in
set_option maxRecDepth 100000 in
theorem awake_calls (w : World) : Calls Try.prog 31 #[] w fun e w' => e = .returned (.bool true) ∧ Below w.heap.size w w' := by
  have hu := Try.underlying43
  have HNEW := Aside0.mk (new_calls 20 w w.heap.size (Nat.le_refl _))
  have hp1 := proper12
  obtain ⟨x, hx⟩ : ∃ x, LI [1, 2] = x := ⟨_, rfl⟩
  rw [hx] at hp1
  have HP1 := Aside0.mk hp1
  have HX := Aside0.mk hx
  clear hp1 hx
  go_enter Try.func31, Try.ntmps31
  go_wp2_with fail
  refine HNEW.out.mono ?_
  rintro e w1 ⟨h, g, gw, m, rfl, hh, hb, hlo⟩
  have HH := Aside0.mk hh
  have HB := Aside0.mk hb
  have HLO := Aside0.mk hlo
  obtain ⟨c0, c1, c2, f1⟩ := hh.cells
  obtain ⟨W2, hW2⟩ : ∃ W2, w1.alloc (.cells #[.int .i64 1, .int .i64 2] 3) = W2 := ⟨_, rfl⟩
  have hb2 : Below w1.heap.size w1 W2 := by rw [← hW2]; exact below_alloc (Below.refl _ _) _
  have hn2 : W2.heap[w1.heap.size]? = some (.cells (nums .i64 [1, 2]).toArray 3 (0, 0)) := by rw [← hW2]; exact heap_alloc_new _ _
  have HB2 := Aside0.mk hb2
  have HPR := Aside0.mk (relictlaw00_Proper.calls 10 (some ⟨w1.heap.size, 0, none⟩) 2 [1, 2] x.f0 x.f1.f0 x.f1.f1 x.f2 x.f3 x.f4 W2 (Kd.C_of_reads (enc := Value.int .i64) (d := (0 : Int)) (h1 := fun _ => rfl) (reads_blk hn2 2 (by simp) (by omega))) (Nat.le_refl _) HP1.out)
  clear hh hb hlo hb2 hn2 HNEW
  go_wp2_with fail
  refine HPR.out.mono ?_
  rintro e w3 ⟨v2, v5, rfl, q2, q5, hb⟩
  obtain ⟨A2, a2, rfl⟩ := Kd.V_slice q2
  obtain ⟨A5, a5, rfl⟩ := Kd.V_slice q5
  have hT : TF w3 (fun k => W2.heap.size ≤ k) x A2 a2 A5 a5 := ⟨Kd.V_F q2, (Kd.V_at q2).2.1, Kd.V_F q5, (Kd.V_at q5).2.1⟩
  have hb3 := below_step HB2.out hb
  rw [← HX.out] at hT
  have hput := put_calls w3 w.heap.size h g gw m (.slice none 0 0) [] (sizeA 20) [] (fun k => W2.heap.size ≤ k) [1, 2] (by intro y hy; simp at hy; omega) (by simp) A2 a2 A5 a5 (HH.out.below hb3) hT
    (fun k hk hs => by have h1 := (HH.out.foot k hs).2; have h2 := HB2.out.size; omega) (by rw [put12.2.2]; decide)
  rw [HX.out, put12.1, put12.2.1] at hput
  unfold cellsT at hput
  have HPUT := Aside0.mk hput
  have HB3 := Aside0.mk hb3
  clear q2 q5 hb hT hb3 hput HPR hW2 c0 c1 c2 f1
  go_wp2_with fail
  refine HPUT.out.mono ?_
  rintro e w4 ⟨rfl, hh, hm⟩
  have HH4 := Aside0.mk hh
  have HB4 := Aside0.mk (show Below w.heap.size w w4 from ((below_step HB.out HB3.out).trans (hm.below (by have := HB.out.size; have := HB3.out.size; omega) (fun k hk => HLO.out k hk))))
  obtain ⟨W5, hW5⟩ : ∃ W5, w4.alloc (.cells #[.int .u64 9, .int .u64 9] 25) = W5 := ⟨_, rfl⟩
  have hb5 : Below w4.heap.size w4 W5 := by rw [← hW5]; exact below_alloc (Below.refl _ _) _
  have hn5 : W5.heap[w4.heap.size]? = some (.cells (nums .u64 [9, 9]).toArray 25 (0, 0)) := by rw [← hW5]; exact heap_alloc_new _ _
  have hcol := collect_calls W5 h g gw m (.slice none 0 0) [35, 11, 19, 1] (sizeA 20) [] w.heap.size (some ⟨w4.heap.size, 0, none⟩) 2 [9, 9] 4 (hh.below hb5) (reads_blk hn5 2 (by simp) (by omega)) (by decide) (by intro y hy; simp at hy; omega) (by decide) [1, 1] [19, 1] [(2, 0)] 5 [19, 9, 35, 11] [(0, 2), (2, 0)] (by rw [sz4]; exact roots12) (by rw [sz4]; exact scan12)
  rw [sz4] at hcol
  have HCOL := Aside0.mk hcol
  have HB5 := Aside0.mk (below_step HB4.out hb5)
  clear hh hm HPUT hcol hb5 hn5
  go_wp2_with fail
  refine HCOL.out.mono ?_
  rintro e w6 ⟨A6, c6, g2, gw2, rfl, hr6, hc6, hh6, hm6, hg2, hgw2⟩
  have el : ([1, 1] : List Int).length = 2 := rfl
  rw [el] at hr6 hc6 ⊢
  obtain ⟨ad, eA, hcell0⟩ := read_at hr6 0 (by omega)
  obtain ⟨ad', eA', hcell1⟩ := read_at hr6 1 (by omega)
  rw [eA] at eA'
  injection eA' with eA'
  subst eA'
  subst eA
  obtain ⟨ab, ao, asp⟩ := ad
  replace hcell0 : w6.cell? ⟨ab, ao, asp⟩ = some (.int .u64 1) := hcell0
  replace hcell1 : w6.cell? ⟨ab, ao + 1, none⟩ = some (.int .u64 1) := hcell1
  have hb6 : Below w.heap.size w w6 := (HB5.out.trans (hm6.below HB5.out.size (fun k hk => by subst hk; exact (HLO.out _ (.inl rfl)))))
  have HB6 := Aside0.mk hb6
  have HH6 := Aside0.mk hh6
  have HR6 := Aside0.mk hr6
  obtain ⟨c0, c1, c2, f1⟩ := hh6.cells
  have HU : Aside0 (∀ V, Below w6.heap.size w6 V → Calls Try.prog 37 #[.pointer (some ⟨g2, 0, none⟩)] V fun e w' => e = .returned (.int .i64 4) ∧ Below V.heap.size V w') := ⟨fun V hv => (used_calls V g2 gw2 4 [19, 9, 35, 11] (HH6.out.below hv).ar).mono (by rintro e w' ⟨he, nd, rfl⟩; exact ⟨he, pw_below_drewN (Below.refl _ _) _⟩)⟩
  have HRE := Aside0.mk (fun (V : World) (hv : Below w6.heap.size w6 V) => reach_calls V h g2 gw2 m (.slice none 0 0) [19, 9, 35, 11] 4 [] w.heap.size (some ⟨ab, ao, asp⟩) c6 [1, 1] (HH6.out.below hv) (reads_mods HR6.out (Mods.of_below (fun _ => False) hv) (fun _ _ => id)) hc6 (by intro y hy; simp at hy; omega) (by decide) 2 [0] [0] 5 4 roots13 bfs13)
  rw [el] at HRE
  have HC0 := Aside0.mk hcell0
  have HC1 := Aside0.mk hcell1
  clear hr6 hc6 hb6 hh6 hm6 el HCOL
  go_wp2_with fail
  -- region 6
  have HBB := Aside0.mk (below_drew (Below.refl w6.heap.size w6))
  refine start_ (n := 40) (S := fun w' => Below w6.heap.size w6 w') (ds := []) #[false, false, false, false, false, false, false, false, false, false, false, false, false, false, false, false, false, false, false, false, false, false, false, false, false, false, false, false, false, false, false, false, false, false, false, false, false, false, false, false] (by kernel_rfl) rfl rfl HBB.out (fun hHeld => ?_); refine with_tabW tab6 bits6 (fun HT_ HW_ => ?_)
  generalize w6.drew = wd at HBB hHeld ⊢
  refine pure_ (i := 0) (N := (some 24)) (v := ?_) (a' := ?_) #[true, false, false, false, false, false, false, false, false, false, false, false, false, false, false, false, false, false, false, false, false, false, false, false, false, false, false, false, false, false, false, false, false, false, false, false, false, false, false, false] rfl rfl (any_of HT_.out (by kernel_rfl)) (fun _ _ _ h => h) (Or.inl ⟨by rfl, ?_⟩) ?_ ?_
  rotate_left; (intro w'; go_simp; with_reducible rfl)
  rotate_left; (simp only [Act.put, List.setIfInBounds_toArray, List.set_cons_zero, List.set_cons_succ, i64_w, i32_w]; rfl)
  refine pure_ (i := 1) (N := (some 25)) (v := ?_) (a' := ?_) #[true, true, false, false, false, false, false, false, false, false, false, false, false, false, false, false, false, false, false, false, false, false, false, false, false, false, false, false, false, false, false, false, false, false, false, false, false, false, false, false] rfl rfl (any_of HT_.out (by kernel_rfl)) (fun _ _ _ h => h) (Or.inl ⟨by rfl, ?_⟩) ?_ ?_
  rotate_left; (intro w'; go_simp; with_reducible rfl)
  rotate_left; (simp only [Act.put, List.setIfInBounds_toArray, List.set_cons_zero, List.set_cons_succ, i64_w, i32_w]; rfl)
  refine pure_ (i := 2) (N := (some 26)) (v := ?_) (a' := ?_) #[true, true, true, false, false, false, false, false, false, false, false, false, false, false, false, false, false, false, false, false, false, false, false, false, false, false, false, false, false, false, false, false, false, false, false, false, false, false, false, false] rfl rfl (any_of HT_.out (by kernel_rfl)) (fun _ _ _ h => h) (Or.inl ⟨by rfl, ?_⟩) ?_ ?_
  rotate_left; (intro w'; go_simp; with_reducible rfl)
  rotate_left; (simp only [Act.put, List.setIfInBounds_toArray, List.set_cons_zero, List.set_cons_succ, i64_w, i32_w]; rfl)
  refine pure_ (i := 3) (N := (some 27)) (v := ?_) (a' := ?_) #[true, true, true, true, false, false, false, false, false, false, false, false, false, false, false, false, false, false, false, false, false, false, false, false, false, false, false, false, false, false, false, false, false, false, false, false, false, false, false, false] rfl rfl (any_of HT_.out (by kernel_rfl)) (fun _ _ _ h => h) (Or.inl ⟨by rfl, ?_⟩) ?_ ?_
  rotate_left; (intro w'; go_simp; with_reducible rfl)
  rotate_left; (simp only [Act.put, List.setIfInBounds_toArray, List.set_cons_zero, List.set_cons_succ, i64_w, i32_w]; rfl)
  refine pure_ (i := 4) (N := (some 28)) (v := ?_) (a' := ?_) #[true, true, true, true, true, false, false, false, false, false, false, false, false, false, false, false, false, false, false, false, false, false, false, false, false, false, false, false, false, false, false, false, false, false, false, false, false, false, false, false] rfl rfl (any_of HT_.out (by kernel_rfl)) (fun _ _ _ h => h) (Or.inl ⟨by rfl, ?_⟩) ?_ ?_
  rotate_left; (intro w'; go_simp; with_reducible rfl)
  rotate_left; (simp only [Act.put, List.setIfInBounds_toArray, List.set_cons_zero, List.set_cons_succ, i64_w, i32_w]; rfl)
  refine pure_ (i := 5) (N := (some 29)) (v := ?_) (a' := ?_) #[true, true, true, true, true, true, false, false, false, false, false, false, false, false, false, false, false, false, false, false, false, false, false, false, false, false, false, false, false, false, false, false, false, false, false, false, false, false, false, false] rfl rfl (any_of HT_.out (by kernel_rfl)) (fun _ _ _ h => h) (Or.inl ⟨by rfl, ?_⟩) ?_ ?_
  rotate_left; (intro w'; go_simp; with_reducible rfl)
  rotate_left; (simp only [Act.put, List.setIfInBounds_toArray, List.set_cons_zero, List.set_cons_succ, i64_w, i32_w]; rfl)
  refine pure_ (i := 6) (N := (some 30)) (v := ?_) (a' := ?_) #[true, true, true, true, true, true, true, false, false, false, false, false, false, false, false, false, false, false, false, false, false, false, false, false, false, false, false, false, false, false, false, false, false, false, false, false, false, false, false, false] rfl rfl (any_of HT_.out (by kernel_rfl)) (fun _ _ _ h => h) (Or.inl ⟨by rfl, ?_⟩) ?_ ?_
  rotate_left; (intro w'; go_simp; with_reducible rfl)
  rotate_left; (simp only [Act.put, List.setIfInBounds_toArray, List.set_cons_zero, List.set_cons_succ, i64_w, i32_w]; rfl)
  refine pure_ (i := 7) (N := (some 31)) (v := ?_) (a' := ?_) #[true, true, true, true, true, true, true, true, false, false, false, false, false, false, false, false, false, false, false, false, false, false, false, false, false, false, false, false, false, false, false, false, false, false, false, false, false, false, false, false] rfl rfl (any_of HT_.out (by kernel_rfl)) (fun _ _ _ h => h) (Or.inl ⟨by rfl, ?_⟩) ?_ ?_
  rotate_left; (intro w'; go_simp; with_reducible rfl)
  rotate_left; (simp only [Act.put, List.setIfInBounds_toArray, List.set_cons_zero, List.set_cons_succ, i64_w, i32_w]; rfl)
  refine pure_ (i := 8) (N := (some 32)) (v := ?_) (a' := ?_) #[true, true, true, true, true, true, true, true, true, false, false, false, false, false, false, false, false, false, false, false, false, false, false, false, false, false, false, false, false, false, false, false, false, false, false, false, false, false, false, false] rfl rfl (any_of HT_.out (by kernel_rfl)) (fun _ _ _ h => h) (Or.inl ⟨by rfl, ?_⟩) ?_ ?_
  rotate_left; (intro w'; go_simp; with_reducible rfl)
  rotate_left; (simp only [Act.put, List.setIfInBounds_toArray, List.set_cons_zero, List.set_cons_succ, i64_w, i32_w]; rfl)
  refine pure_ (i := 9) (N := (some 33)) (v := ?_) (a' := ?_) #[true, true, true, true, true, true, true, true, true, true, false, false, false, false, false, false, false, false, false, false, false, false, false, false, false, false, false, false, false, false, false, false, false, false, false, false, false, false, false, false] rfl rfl (any_of HT_.out (by kernel_rfl)) (fun _ _ _ h => h) (Or.inl ⟨by rfl, ?_⟩) ?_ ?_
  rotate_left; (intro w'; go_simp; with_reducible rfl)
  rotate_left; (simp only [Act.put, List.setIfInBounds_toArray, List.set_cons_zero, List.set_cons_succ, i64_w, i32_w]; rfl)
  refine pure_ (i := 10) (N := (some 34)) (v := ?_) (a' := ?_) #[true, true, true, true, true, true, true, true, true, true, true, false, false, false, false, false, false, false, false, false, false, false, false, false, false, false, false, false, false, false, false, false, false, false, false, false, false, false, false, false] rfl rfl (any_of HT_.out (by kernel_rfl)) (fun _ _ _ h => h) (Or.inl ⟨by rfl, ?_⟩) ?_ ?_
  rotate_left; (intro w'; go_simp; with_reducible rfl)
  rotate_left; (simp only [Act.put, List.setIfInBounds_toArray, List.set_cons_zero, List.set_cons_succ, i64_w, i32_w]; rfl)
  refine pure_ (i := 11) (N := (some 35)) (v := ?_) (a' := ?_) #[true, true, true, true, true, true, true, true, true, true, true, true, false, false, false, false, false, false, false, false, false, false, false, false, false, false, false, false, false, false, false, false, false, false, false, false, false, false, false, false] rfl rfl (any_of HT_.out (by kernel_rfl)) (fun _ _ _ h => h) (Or.inl ⟨by rfl, ?_⟩) ?_ ?_
  rotate_left; (intro w'; go_simp; with_reducible rfl)
  rotate_left; (simp only [Act.put, List.setIfInBounds_toArray, List.set_cons_zero, List.set_cons_succ, i64_w, i32_w]; rfl)
  refine take_ (i := 12) (N := (some 36)) (v := ?_) (a' := ?_) #[true, true, true, true, true, true, true, true, true, true, true, true, true, false, false, false, false, false, false, false, false, false, false, false, false, false, false, false, false, false, false, false, false, false, false, false, false, false, false, false] rfl rfl (take_ofW HT_.out HW_.out (by kernel_rfl)) (fun _ _ _ h => h) (Or.inl ⟨by rfl, ?_⟩) hHeld ?_ ?_
  rotate_left; (intro w' hs; have s0 := pw_cell_below hs HC0.out; go_simp; with_reducible rfl)
  rotate_left; (simp only [Act.put, List.setIfInBounds_toArray, List.set_cons_zero, List.set_cons_succ, i64_w, i32_w]; rfl)
  refine pure_ (i := 13) (N := (some 37)) (v := ?_) (a' := ?_) #[true, true, true, true, true, true, true, true, true, true, true, true, true, true, false, false, false, false, false, false, false, false, false, false, false, false, false, false, false, false, false, false, false, false, false, false, false, false, false, false] rfl rfl (any_of HT_.out (by kernel_rfl)) (fun _ _ _ h => h) (Or.inl ⟨by rfl, ?_⟩) ?_ ?_
  rotate_left; (intro w'; go_simp; with_reducible rfl)
  rotate_left; (simp only [Act.put, List.setIfInBounds_toArray, List.set_cons_zero, List.set_cons_succ, i64_w, i32_w]; rfl)
  refine pure_ (i := 14) (N := (some 38)) (v := ?_) (a' := ?_) #[true, true, true, true, true, true, true, true, true, true, true, true, true, true, true, false, false, false, false, false, false, false, false, false, false, false, false, false, false, false, false, false, false, false, false, false, false, false, false, false] rfl rfl (any_of HT_.out (by kernel_rfl)) (fun _ _ _ h => h) (Or.inl ⟨by rfl, ?_⟩) ?_ ?_
  rotate_left; (intro w'; go_simp; with_reducible rfl)
  rotate_left; (simp only [Act.put, List.setIfInBounds_toArray, List.set_cons_zero, List.set_cons_succ, i64_w, i32_w]; rfl)
  refine take_ (i := 15) (N := (some 39)) (v := ?_) (a' := ?_) #[true, true, true, true, true, true, true, true, true, true, true, true, true, true, true, true, false, false, false, false, false, false, false, false, false, false, false, false, false, false, false, false, false, false, false, false, false, false, false, false] rfl rfl (take_ofW HT_.out HW_.out (by kernel_rfl)) (fun _ _ _ h => h) (Or.inl ⟨by rfl, ?_⟩) hHeld ?_ ?_
  rotate_left; (intro w' hs; have s0 := pw_cell_below hs HC1.out; go_simp; with_reducible rfl)
  rotate_left; (simp only [Act.put, List.setIfInBounds_toArray, List.set_cons_zero, List.set_cons_succ, i64_w, i32_w]; rfl)
  refine pure_ (i := 16) (N := (some 40)) (v := ?_) (a' := ?_) #[true, true, true, true, true, true, true, true, true, true, true, true, true, true, true, true, true, false, false, false, false, false, false, false, false, false, false, false, false, false, false, false, false, false, false, false, false, false, false, false] rfl rfl (any_of HT_.out (by kernel_rfl)) (fun _ _ _ h => h) (Or.inl ⟨by rfl, ?_⟩) ?_ ?_
  rotate_left; (intro w'; go_simp; with_reducible rfl)
  rotate_left; (simp only [Act.put, List.setIfInBounds_toArray, List.set_cons_zero, List.set_cons_succ, i64_w, i32_w]; rfl)
  refine pure_ (i := 17) (N := (some 41)) (v := ?_) (a' := ?_) #[true, true, true, true, true, true, true, true, true, true, true, true, true, true, true, true, true, true, false, false, false, false, false, false, false, false, false, false, false, false, false, false, false, false, false, false, false, false, false, false] rfl rfl (any_of HT_.out (by kernel_rfl)) (fun _ _ _ h => h) (Or.inl ⟨by rfl, ?_⟩) ?_ ?_
  rotate_left; (intro w'; go_simp; with_reducible rfl)
  rotate_left; (simp only [Act.put, List.setIfInBounds_toArray, List.set_cons_zero, List.set_cons_succ, i64_w, i32_w]; rfl)
  refine pure_ (i := 18) (N := (some 42)) (v := ?_) (a' := ?_) #[true, true, true, true, true, true, true, true, true, true, true, true, true, true, true, true, true, true, true, false, false, false, false, false, false, false, false, false, false, false, false, false, false, false, false, false, false, false, false, false] rfl rfl (any_of HT_.out (by kernel_rfl)) (fun _ _ _ h => h) (Or.inl ⟨by rfl, ?_⟩) ?_ ?_
  rotate_left; (intro w'; go_simp; with_reducible rfl)
  rotate_left; (simp only [Act.put, List.setIfInBounds_toArray, List.set_cons_zero, List.set_cons_succ, i64_w, i32_w]; rfl)
  refine pure_ (i := 19) (N := (some 43)) (v := ?_) (a' := ?_) #[true, true, true, true, true, true, true, true, true, true, true, true, true, true, true, true, true, true, true, true, false, false, false, false, false, false, false, false, false, false, false, false, false, false, false, false, false, false, false, false] rfl rfl (any_of HT_.out (by kernel_rfl)) (fun _ _ _ h => h) (Or.inl ⟨by rfl, ?_⟩) ?_ ?_
  rotate_left; (intro w'; go_simp; with_reducible rfl)
  rotate_left; (simp only [Act.put, List.setIfInBounds_toArray, List.set_cons_zero, List.set_cons_succ, i64_w, i32_w]; rfl)
  refine pure_ (i := 20) (N := (some 44)) (v := ?_) (a' := ?_) #[true, true, true, true, true, true, true, true, true, true, true, true, true, true, true, true, true, true, true, true, true, false, false, false, false, false, false, false, false, false, false, false, false, false, false, false, false, false, false, false] rfl rfl (any_of HT_.out (by kernel_rfl)) (fun _ _ _ h => h) (Or.inl ⟨by rfl, ?_⟩) ?_ ?_
  rotate_left; (intro w'; go_simp; with_reducible rfl)
  rotate_left; (simp only [Act.put, List.setIfInBounds_toArray, List.set_cons_zero, List.set_cons_succ, i64_w, i32_w]; rfl)
  refine pure_ (i := 21) (N := (some 45)) (v := ?_) (a' := ?_) #[true, true, true, true, true, true, true, true, true, true, true, true, true, true, true, true, true, true, true, true, true, true, false, false, false, false, false, false, false, false, false, false, false, false, false, false, false, false, false, false] rfl rfl (any_of HT_.out (by kernel_rfl)) (fun _ _ _ h => h) (Or.inl ⟨by rfl, ?_⟩) ?_ ?_
  rotate_left; (intro w'; go_simp; with_reducible rfl)
  rotate_left; (simp only [Act.put, List.setIfInBounds_toArray, List.set_cons_zero, List.set_cons_succ, i64_w, i32_w]; rfl)
  refine take_ (i := 22) (N := (some 46)) (v := ?_) (a' := ?_) #[true, true, true, true, true, true, true, true, true, true, true, true, true, true, true, true, true, true, true, true, true, true, true, false, false, false, false, false, false, false, false, false, false, false, false, false, false, false, false, false] rfl rfl (take_ofW HT_.out HW_.out (by kernel_rfl)) (fun _ _ _ h => h) (Or.inl ⟨by rfl, ?_⟩) hHeld ?_ ?_
  rotate_left; (intro w' hs; have s0 := pw_cell_below hs HH6.out.cells.1; go_simp; with_reducible rfl)
  rotate_left; (simp only [Act.put, List.setIfInBounds_toArray, List.set_cons_zero, List.set_cons_succ, i64_w, i32_w]; rfl)
  refine pure_ (i := 23) (N := (some 47)) (v := ?_) (a' := ?_) #[true, true, true, true, true, true, true, true, true, true, true, true, true, true, true, true, true, true, true, true, true, true, true, true, false, false, false, false, false, false, false, false, false, false, false, false, false, false, false, false] rfl rfl (any_of HT_.out (by kernel_rfl)) (fun _ _ _ h => h) (Or.inl ⟨by rfl, ?_⟩) ?_ ?_
  rotate_left; (intro w'; go_simp; with_reducible rfl)
  rotate_left; (simp only [Act.put, List.setIfInBounds_toArray, List.set_cons_zero, List.set_cons_succ, i64_w, i32_w]; rfl)
  refine pure_ (i := 24) (N := (some 48)) (v := ?_) (a' := ?_) #[true, true, true, true, true, true, true, true, true, true, true, true, true, true, true, true, true, true, true, true, true, true, true, true, true, false, false, false, false, false, false, false, false, false, false, false, false, false, false, false] rfl rfl (any_of HT_.out (by kernel_rfl)) (fun _ _ _ h => h) (Or.inl ⟨by rfl, ?_⟩) ?_ ?_
  rotate_left; (intro w'; go_simp; with_reducible rfl)
  rotate_left; (simp only [Act.put, List.setIfInBounds_toArray, List.set_cons_zero, List.set_cons_succ, i64_w, i32_w]; rfl)
  refine pure_ (i := 25) (N := (some 49)) (v := ?_) (a' := ?_) #[true, true, true, true, true, true, true, true, true, true, true, true, true, true, true, true, true, true, true, true, true, true, true, true, true, true, false, false, false, false, false, false, false, false, false, false, false, false, false, false] rfl rfl (any_of HT_.out (by kernel_rfl)) (fun _ _ _ h => h) (Or.inl ⟨by rfl, ?_⟩) ?_ ?_
  rotate_left; (intro w'; go_simp; with_reducible rfl)
  rotate_left; (simp only [Act.put, List.setIfInBounds_toArray, List.set_cons_zero, List.set_cons_succ, i64_w, i32_w]; rfl)
  refine pure_ (i := 26) (N := (some 50)) (v := ?_) (a' := ?_) #[true, true, true, true, true, true, true, true, true, true, true, true, true, true, true, true, true, true, true, true, true, true, true, true, true, true, true, false, false, false, false, false, false, false, false, false, false, false, false, false] rfl rfl (any_of HT_.out (by kernel_rfl)) (fun _ _ _ h => h) (Or.inl ⟨by rfl, ?_⟩) ?_ ?_
  rotate_left; (intro w'; go_simp; with_reducible rfl)
  rotate_left; (simp only [Act.put, List.setIfInBounds_toArray, List.set_cons_zero, List.set_cons_succ, i64_w, i32_w]; rfl)
  refine pure_ (i := 27) (N := (some 51)) (v := ?_) (a' := ?_) #[true, true, true, true, true, true, true, true, true, true, true, true, true, true, true, true, true, true, true, true, true, true, true, true, true, true, true, true, false, false, false, false, false, false, false, false, false, false, false, false] rfl rfl (any_of HT_.out (by kernel_rfl)) (fun _ _ _ h => h) (Or.inl ⟨by rfl, ?_⟩) ?_ ?_
  rotate_left; (intro w'; go_simp; with_reducible rfl)
  rotate_left; (simp only [Act.put, List.setIfInBounds_toArray, List.set_cons_zero, List.set_cons_succ, i64_w, i32_w]; rfl)
  refine pure_ (i := 28) (N := (some 52)) (v := ?_) (a' := ?_) #[true, true, true, true, true, true, true, true, true, true, true, true, true, true, true, true, true, true, true, true, true, true, true, true, true, true, true, true, true, false, false, false, false, false, false, false, false, false, false, false] rfl rfl (any_of HT_.out (by kernel_rfl)) (fun _ _ _ h => h) (Or.inl ⟨by rfl, ?_⟩) ?_ ?_
  rotate_left; (intro w'; go_simp; with_reducible rfl)
  rotate_left; (simp only [Act.put, List.setIfInBounds_toArray, List.set_cons_zero, List.set_cons_succ, i64_w, i32_w]; rfl)
  refine take_ (i := 29) (N := (some 53)) (v := ?_) (a' := ?_) #[true, true, true, true, true, true, true, true, true, true, true, true, true, true, true, true, true, true, true, true, true, true, true, true, true, true, true, true, true, true, false, false, false, false, false, false, false, false, false, false] rfl rfl (take_ofW HT_.out HW_.out (by kernel_rfl)) (fun _ _ _ h => h) (Or.inl ⟨by rfl, ?_⟩) hHeld ?_ ?_
  rotate_left; (intro w' hs; have s0 := pw_cell_below hs HH6.out.cells.1; go_simp; with_reducible rfl)
  rotate_left; (simp only [Act.put, List.setIfInBounds_toArray, List.set_cons_zero, List.set_cons_succ, i64_w, i32_w]; rfl)
  refine one_ (i := 30) (N := (some 54)) #[true, true, true, true, true, true, true, true, true, true, true, true, true, true, true, true, true, true, true, true, true, true, true, true, true, true, true, true, true, true, true, false, false, false, false, false, false, false, false, false] rfl rfl (one_of HT_.out (by kernel_rfl)) (by decide) (fun K hK => ?_)
  refine goes_ Try.func37 (by kernel_rfl) rfl #[.pointer (some ⟨g2, 0, none⟩)] (by rfl) rfl rfl (by (try simp only [List.map_toArray, List.map_cons, List.map_nil]); first | done | rfl) ?_
  refine (HU.out _ HBB.out).mono ?_
  rintro e wu ⟨rfl, hb⟩
  refine ⟨_, rfl, ?_⟩
  have n0_ := Aside0.mk (below_step HBB.out hb)
  clear HBB hHeld hb
  have HBB := n0_
  clear n0_
  refine hK.out _ _ HBB.out (fun hHeld => ?_)
  clear hK K
  refine norm_ (a' := ?_) ?_ ?_
  rotate_left
  · show Act.put _ (some 54) _ = _
    simp only [Act.put, List.setIfInBounds_toArray, List.set_cons_zero, List.set_cons_succ, i64_w, i32_w]
    rfl
  refine pure_ (i := 31) (N := (some 55)) (v := ?_) (a' := ?_) #[true, true, true, true, true, true, true, true, true, true, true, true, true, true, true, true, true, true, true, true, true, true, true, true, true, true, true, true, true, true, true, true, false, false, false, false, false, false, false, false] rfl rfl (any_of HT_.out (by kernel_rfl)) (fun _ _ _ h => h) (Or.inl ⟨by rfl, ?_⟩) ?_ ?_
  rotate_left; (intro w'; go_simp; with_reducible rfl)
  rotate_left; (simp only [Act.put, List.setIfInBounds_toArray, List.set_cons_zero, List.set_cons_succ, i64_w, i32_w]; rfl)
  refine pure_ (i := 32) (N := (some 56)) (v := ?_) (a' := ?_) #[true, true, true, true, true, true, true, true, true, true, true, true, true, true, true, true, true, true, true, true, true, true, true, true, true, true, true, true, true, true, true, true, true, false, false, false, false, false, false, false] rfl rfl (any_of HT_.out (by kernel_rfl)) (fun _ _ _ h => h) (Or.inl ⟨by rfl, ?_⟩) ?_ ?_
  rotate_left; (intro w'; go_simp; with_reducible rfl)
  rotate_left; (simp only [Act.put, List.setIfInBounds_toArray, List.set_cons_zero, List.set_cons_succ, i64_w, i32_w]; rfl)
  refine pure_ (i := 33) (N := (some 57)) (v := ?_) (a' := ?_) #[true, true, true, true, true, true, true, true, true, true, true, true, true, true, true, true, true, true, true, true, true, true, true, true, true, true, true, true, true, true, true, true, true, true, false, false, false, false, false, false] rfl rfl (any_of HT_.out (by kernel_rfl)) (fun _ _ _ h => h) (Or.inl ⟨by rfl, ?_⟩) ?_ ?_
  rotate_left; (intro w'; go_simp; with_reducible rfl)
  rotate_left; (simp only [Act.put, List.setIfInBounds_toArray, List.set_cons_zero, List.set_cons_succ, i64_w, i32_w]; rfl)
  refine pure_ (i := 34) (N := (some 58)) (v := ?_) (a' := ?_) #[true, true, true, true, true, true, true, true, true, true, true, true, true, true, true, true, true, true, true, true, true, true, true, true, true, true, true, true, true, true, true, true, true, true, true, false, false, false, false, false] rfl rfl (any_of HT_.out (by kernel_rfl)) (fun _ _ _ h => h) (Or.inl ⟨by rfl, ?_⟩) ?_ ?_
  rotate_left; (intro w'; go_simp; with_reducible rfl)
  rotate_left; (simp only [Act.put, List.setIfInBounds_toArray, List.set_cons_zero, List.set_cons_succ, i64_w, i32_w]; rfl)
  refine pure_ (i := 35) (N := (some 59)) (v := ?_) (a' := ?_) #[true, true, true, true, true, true, true, true, true, true, true, true, true, true, true, true, true, true, true, true, true, true, true, true, true, true, true, true, true, true, true, true, true, true, true, true, false, false, false, false] rfl rfl (any_of HT_.out (by kernel_rfl)) (fun _ _ _ h => h) (Or.inl ⟨by rfl, ?_⟩) ?_ ?_
  rotate_left; (intro w'; go_simp; with_reducible rfl)
  rotate_left; (simp only [Act.put, List.setIfInBounds_toArray, List.set_cons_zero, List.set_cons_succ, i64_w, i32_w]; rfl)
  refine one_ (i := 36) (N := (some 60)) #[true, true, true, true, true, true, true, true, true, true, true, true, true, true, true, true, true, true, true, true, true, true, true, true, true, true, true, true, true, true, true, true, true, true, true, true, true, false, false, false] rfl rfl (one_of HT_.out (by kernel_rfl)) (by decide) (fun K hK => ?_)
  refine goes_ Try.func34 (by kernel_rfl) rfl #[.pointer (some ⟨h, 0, none⟩), .slice (some ⟨ab, ao, asp⟩) 2 c6] (by rfl) rfl rfl (by (try simp only [List.map_toArray, List.map_cons, List.map_nil]); first | done | rfl) ?_
  refine (HRE.out _ HBB.out).mono ?_
  rintro e wv ⟨rfl, hb⟩
  refine ⟨_, rfl, ?_⟩
  have n0_ := Aside0.mk (below_step HBB.out hb)
  clear HBB hHeld hb
  have HBB := n0_
  clear n0_
  refine hK.out _ _ HBB.out (fun hHeld => ?_)
  clear hK K
  refine norm_ (a' := ?_) ?_ ?_
  rotate_left
  · show Act.put _ (some 60) _ = _
    simp only [Act.put, List.setIfInBounds_toArray, List.set_cons_zero, List.set_cons_succ, i64_w, i32_w]
    rfl
  refine pure_ (i := 37) (N := (some 61)) (v := ?_) (a' := ?_) #[true, true, true, true, true, true, true, true, true, true, true, true, true, true, true, true, true, true, true, true, true, true, true, true, true, true, true, true, true, true, true, true, true, true, true, true, true, true, false, false] rfl rfl (any_of HT_.out (by kernel_rfl)) (fun _ _ _ h => h) (Or.inl ⟨by rfl, ?_⟩) ?_ ?_
  rotate_left; (intro w'; go_simp; with_reducible rfl)
  rotate_left; (simp only [Act.put, List.setIfInBounds_toArray, List.set_cons_zero, List.set_cons_succ, i64_w, i32_w]; rfl)
  refine pure_ (i := 38) (N := (some 62)) (v := ?_) (a' := ?_) #[true, true, true, true, true, true, true, true, true, true, true, true, true, true, true, true, true, true, true, true, true, true, true, true, true, true, true, true, true, true, true, true, true, true, true, true, true, true, true, false] rfl rfl (any_of HT_.out (by kernel_rfl)) (fun _ _ _ h => h) (Or.inl ⟨by rfl, ?_⟩) ?_ ?_
  rotate_left; (intro w'; go_simp; with_reducible rfl)
  rotate_left; (simp only [Act.put, List.setIfInBounds_toArray, List.set_cons_zero, List.set_cons_succ, i64_w, i32_w]; rfl)
  refine pure_ (i := 39) (N := (some 0)) (v := ?_) (a' := ?_) #[true, true, true, true, true, true, true, true, true, true, true, true, true, true, true, true, true, true, true, true, true, true, true, true, true, true, true, true, true, true, true, true, true, true, true, true, true, true, true, true] rfl rfl (any_of HT_.out (by kernel_rfl)) (fun _ _ _ h => h) (Or.inl ⟨by rfl, ?_⟩) ?_ ?_
  rotate_left; (intro w'; go_simp; with_reducible rfl)
  rotate_left; (simp only [Act.put, List.setIfInBounds_toArray, List.set_cons_zero, List.set_cons_succ, i64_w, i32_w]; rfl)
  refine done_ (done_of HT_.out (by kernel_rfl)) ?_
  -- region 6 done
  have HB7 := Aside0.mk (below_step HB6.out HBB.out)
  go_wp2_with fail
  go_ret
  exact ⟨rfl, HB7.out⟩
end Go.Proofs.YtlifdpfhepamfaaCa
namespace Go.Proofs.YtlifdpfhepamfaaCn
open Go.RowKit Go.Maps Go.Proofs.YtlifdpfhepamfaaW.PrintWords Go.Proofs.YtlifdpfhepamfaaW.PrintLast Go.Proofs.YtlifdpfhepamfaaW.PrintMore Go.Proofs.YtlifdpfhepamfaaMem Go.Proofs.YtlifdpfhepamfaaLeaf Go.Proofs.YtlifdpfhepamfaaBits Go.Proofs.Ytlifdpfhepamfaa.PHe Go.Proofs.YtlifdpfhepamfaaRow Go.Proofs.YtlifdpfhepamfaaAr Go.Proofs.YtlifdpfhepamfaaHp Go.Proofs.YtlifdpfhepamfaaHo Go.Proofs.YtlifdpfhepamfaaHt Go.Proofs.YtlifdpfhepamfaaHw Go.Proofs.YtlifdpfhepamfaaHu Go.Proofs.YtlifdpfhepamfaaHv Go.Proofs.YtlifdpfhepamfaaWd Go.Proofs.YtlifdpfhepamfaaCp Go.Proofs.YtlifdpfhepamfaaCm Go.Proofs.YtlifdpfhepamfaaQr Go.Proofs.YtlifdpfhepamfaaCl Go.Proofs.YtlifdpfhepamfaaCk Go.Proofs.YtlifdpfhepamfaaCc Go.Proofs.YtlifdpfhepamfaaCr Go.Proofs.YtlifdpfhepamfaaCa Go.Proofs.YtlifdpfhepamfaaPr Go.Proofs
set_option linter.unusedVariables false
set_option linter.unusedSimpArgs false
/-- A root that is by itself. -/
def Imm (xs : List Int) : Prop := ∀ x, x ∈ xs → 0 ≤ x ∧ x < 33554432 ∧ x % 4 = 3
theorem pts {x : Int} (h : x % 4 = 3) : pointsI x = false := by unfold pointsI; simp [h]
theorem roots_imm (l : List Int) (n2 : Nat) : ∀ (xs o : List Int), Imm xs → rootsF l n2 xs o [] [] = some (o ++ xs, [], [])
  | [], o, _ => by simp [rootsF]
  | x :: xs, o, h => by
    have hx := (h x (by simp)).2.2
    have hm : moveF l n2 [] [] x = (x, true, [], []) := by unfold moveF; rw [if_pos (pts hx)]
    simp only [rootsF, hm]
    rw [if_pos trivial, roots_imm l n2 xs (o ++ [x]) (fun y hy => h y (by simp [hy]))]
    simp
theorem scan_imm (l : List Int) (n2 : Nat) : scanF l n2 1 0 [] [] = some ([], []) := by
  unfold scanF
  rw [if_pos (by simp)]
theorem look_imm (l : List Int) : ∀ (xs : List Int), Imm xs → rootsR l xs 0 [] [] = some (0, [], [])
  | [], _ => rfl
  | x :: xs, h => by
    have hx := (h x (by simp)).2.2
    have hm : lookF l 0 [] [] x = (true, 0, [], []) := by unfold lookF; rw [if_pos (pts hx)]
    have hg : lookG l 0 [] [] x = some (0, [], []) := by unfold lookG; rw [hm]; rfl
    simp only [rootsR, hg, Option.bind_some]
    exact look_imm l xs (fun y hy => h y (by simp [hy]))
theorem bfs_imm (l : List Int) : bfsR l 1 0 [] [] = some 0 := rfl
theorem same_l (xs : List Int) (hl : xs.length ≤ 1000) : ∀ (d i k : Nat), i + d = xs.length → d < k → relictlaw00_SameWords.l0 k xs xs (i : Int) = some true
  | 0, i, k + 1, hi, hk => by
    unfold relictlaw00_SameWords.l0
    rw [if_neg (by omega)]
  | d + 1, i, k + 1, hi, hk => by
    unfold relictlaw00_SameWords.l0
    rw [if_pos (by omega), if_pos (by omega), if_pos (by omega), if_pos rfl, show wrap64 ((i : Int) + 1) = ((i + 1 : Nat) : Int) by unfold wrap64; omega]
    exact same_l xs hl d (i + 1) k (by omega) (by omega)
theorem same_self (xs : List Int) (hl : xs.length ≤ 1000) : relictlaw00_SameWords.f 1001 xs xs = some true := by
  unfold relictlaw00_SameWords.f
  rw [if_pos rfl]
  exact same_l xs hl xs.length 0 1001 (by omega) (by omega)
/-- The root that the law makes of a number. -/
def tagR (n : Int) : Int := if n % 4 = 1 then 7 else if n % 4 = 2 then 15 else 3
def rtI (x : Int) : Int := (x % 1048576) * 16 + tagR (x % 1048576)
theorem rt_imm (xs : List Int) : Imm (xs.map rtI) := by
  intro x hx
  obtain ⟨y, _, rfl⟩ := List.mem_map.1 hx
  unfold rtI tagR
  have h0 := Int.emod_nonneg y (show (1048576 : Int) ≠ 0 by omega)
  have h1 := Int.emod_lt_of_pos y (show (0 : Int) < 1048576 by omega)
  split
  · omega
  · split <;> omega
theorem imm_W64 {xs : List Int} (h : Imm xs) : W64 xs := by
  intro x hx
  have := h x hx
  omega
theorem sz300 : sizeA 300 = 300 := by kernel_rfl
theorem sz0 : sizeA 0 = 0 := by kernel_rfl
theorem own_be {w w' : World} {b : Nat} {e : TypeId} {size n : Nat} {v : Value} {cs : List Value} (h : w.ownsRow b e size v n cs) (hb : Below w.heap.size w w') : w'.ownsRow b e size v n cs := ownsRow_mods h (Mods.of_below (fun _ => False) hb) (fun _ _ => id)
theorem ix0 (W : World) : Sem.run Try.prog (Instr.index 59 (.agg #[.int .u64 3, .int .u64 7, .int .u64 15, .int .u64 3]) (.int .u64 0)) W = .ok (.int .u64 3) W := by kernel_rfl
theorem ix1 (W : World) : Sem.run Try.prog (Instr.index 59 (.agg #[.int .u64 3, .int .u64 7, .int .u64 15, .int .u64 3]) (.int .u64 1)) W = .ok (.int .u64 7) W := by kernel_rfl
theorem ix2 (W : World) : Sem.run Try.prog (Instr.index 59 (.agg #[.int .u64 3, .int .u64 7, .int .u64 15, .int .u64 3]) (.int .u64 2)) W = .ok (.int .u64 15) W := by kernel_rfl
theorem ix3 (W : World) : Sem.run Try.prog (Instr.index 59 (.agg #[.int .u64 3, .int .u64 7, .int .u64 15, .int .u64 3]) (.int .u64 3)) W = .ok (.int .u64 3) W := by kernel_rfl
theorem ix_run (z : Int) (h0 : 0 ≤ z) (W : World) : Sem.run Try.prog (Instr.index 59 (.agg #[.int .u64 3, .int .u64 7, .int .u64 15, .int .u64 3]) (.int .u64 (z % 4))) W = .ok (.int .u64 (tagR z)) W := by
  have h4 : z % 4 = 0 ∨ z % 4 = 1 ∨ z % 4 = 2 ∨ z % 4 = 3 := by omega
  unfold tagR
  rcases h4 with e | e | e | e
  · rw [e, if_neg (by omega), if_neg (by omega)]; exact ix0 W
  · rw [e, if_pos rfl]; exact ix1 W
  · rw [e, if_neg (by omega), if_pos rfl]; exact ix2 W
  · rw [e, if_neg (by omega), if_neg (by omega)]; exact ix3 W
theorem or_tag (z : Int) (h0 : 0 ≤ z) (h1 : z < 1048576) : bits .or .u64 (z * 16) (tagR z) = z * 16 + tagR z := by
  have : 0 ≤ tagR z ∧ tagR z < 16 := by unfold tagR; (repeat' split) <;> omega
  exact or_join 4 (z * 16) (tagR z) (by omega) (by omega) (by omega) (by omega) (by omega) (by omega)
set_option maxHeartbeats 8000000 in
set_option maxRecDepth 100000 in
theorem law_calls (A : Option Addr) (len c : Nat) (A' : Option Addr) (len' c' : Nat) (xs ks : List Int) (w : World) (hx : ReadsInt w .i64 A len xs) (hc : len ≤ c) (hk : ReadsInt w .i64 A' len' ks) (hc' : len' ≤ c') (hI : I64 ks) :
    Calls Try.prog 5 #[.slice A len c, .slice A' len' c'] w fun e w' => e = .returned (.bool true) ∧ Below w.heap.size w w' := by
  by_cases hbig : 60 < len ∨ 60 < len'
  · clear hx hc hk hc' hI
    by_cases a : 60 < len
    · have b0 : ((60 : Int) < (len : Int)) := by omega
      have b1 : decide ((60 : Int) < (len : Int)) = true := by simp; omega
      clear hbig a
      go_enter Try.func5, Try.ntmps5
      go_wp2_with fail
      refine (Go.Proofs.YtlifdpfhepamfaaCa.awake_calls _).mono ?_
      rintro e w1 ⟨rfl, hb⟩
      have HB := Aside0.mk hb
      clear hb
      go_wp2_with fail
      go_ret
      exact ⟨rfl, HB.out⟩
    · have b0 : ¬ ((60 : Int) < (len : Int)) := by omega
      have b1 : decide ((60 : Int) < (len : Int)) = false := by simp; omega
      have b2 : ((60 : Int) < (len' : Int)) := by omega
      clear hbig a
      go_enter Try.func5, Try.ntmps5
      go_wp2_with fail
      refine (Go.Proofs.YtlifdpfhepamfaaCa.awake_calls _).mono ?_
      rintro e w1 ⟨rfl, hb⟩
      have HB := Aside0.mk hb
      clear hb
      go_wp2_with fail
      go_ret
      exact ⟨rfl, HB.out⟩
  · have b0 : ¬ ((60 : Int) < (len : Int)) := by omega
    have b1 : decide ((60 : Int) < (len : Int)) = false := by simp; omega
    have b2 : ¬ ((60 : Int) < (len' : Int)) := by omega
    have hlx : len ≤ 60 := by omega
    have hlk : len' ≤ 60 := by omega
    have hu := Try.underlying43
    have hxl : xs.length = len := hx.1
    have hkl : ks.length = len' := hk.1
    have HX := Aside0.mk hx
    have HK := Aside0.mk hk
    have HI := Aside0.mk hI
    have HXL := Aside0.mk hxl
    have HKL := Aside0.mk hkl
    have HNEW := Aside0.mk (new_calls 300 w w.heap.size (Nat.le_refl _))
    rw [sz300] at HNEW
    have hp1 := proper_f ks hI (by omega)
    obtain ⟨x, hxx⟩ : ∃ x, LI ks = x := ⟨_, rfl⟩
    rw [hxx] at hp1
    have HP1 := Aside0.mk hp1
    have HXX := Aside0.mk hxx
    clear hp1 hxx hx hk hI hxl hkl hbig
    go_enter Try.func5, Try.ntmps5
    go_wp2_with fail
    refine HNEW.out.mono ?_
    rintro e w1 ⟨h, g, gw, m, rfl, hh, hb, hlo⟩
    have HH := Aside0.mk hh
    have HB := Aside0.mk hb
    have HLO := Aside0.mk hlo
    obtain ⟨c0, c1, c2, f1⟩ := hh.cells
    have HPR := Aside0.mk (fun W (hW : Below w1.heap.size w1 W) => relictlaw00_Proper.calls 200 A' c' ks x.f0 x.f1.f0 x.f1.f1 x.f2 x.f3 x.f4 W (Kd.C_of_reads (enc := Value.int .i64) (d := (0 : Int)) (h1 := fun _ => rfl) (by rw [HKL.out]; exact reads_mods HK.out (Mods.of_below (fun _ => False) (below_step HB.out hW)) (fun _ _ => id))) (by rw [HKL.out]; exact hc') HP1.out)
    rw [HKL.out] at HPR
    clear hh hb hlo HNEW
    go_wp2_with fail
    refine (HPR.out _ (Below.refl _ _)).mono ?_
    rintro e w3 ⟨v2, v5, rfl, q2, q5, hb⟩
    obtain ⟨A2, a2, rfl⟩ := Kd.V_slice q2
    obtain ⟨A5, a5, rfl⟩ := Kd.V_slice q5
    have hT : TF w3 (fun k => w1.heap.size ≤ k) x A2 a2 A5 a5 := ⟨Kd.V_F q2, (Kd.V_at q2).2.1, Kd.V_F q5, (Kd.V_at q5).2.1⟩
    rw [← HXX.out] at hT
    have hput := put_calls w3 w.heap.size h g gw m (.slice none 0 0) [] 300 [] (fun k => w1.heap.size ≤ k) ks HI.out (by rw [HKL.out]; omega) A2 a2 A5 a5 (HH.out.below hb) hT
      (fun k hk hs => by have h1 := (HH.out.foot k hs).2; omega) (by have := wL_le ks; have := HKL.out; simp; omega)
    rw [HXX.out] at hput
    generalize putLw ks [] = l4 at hput
    generalize putWw ks [] = x4 at hput
    unfold cellsT at hput
    have HPUT := Aside0.mk hput
    have HB3 := Aside0.mk hb
    clear q2 q5 hb hT hput HPR c0 c1 c2 f1
    go_wp2_with fail
    refine HPUT.out.mono ?_
    rintro e w4 ⟨rfl, hh, hm⟩
    have HH4 := Aside0.mk hh
    have HB4 := Aside0.mk (show Below w.heap.size w w4 from (below_step HB.out HB3.out).trans (hm.below (by have := HB.out.size; have := HB3.out.size; omega) (fun k hk => HLO.out k hk)))
    clear hh hm HPUT
    go_wp2_with fail
    go_loopg [8, 9] len (fun q v8 v9 wr => ∃ (i : Nat) (o1 : List Int), q = len - i ∧ i ≤ len ∧ v9 = .int .i64 i ∧ Aside0 (wr.ownsRow w4.heap.size 25 1 v8 o1.length (nums .u64 o1)) ∧ Aside0 (Below w4.heap.size w4 wr) ∧ Aside0 (o1 = (xs.take i).map rtI))
    case atStart => exact ⟨0, [], by omega, by omega, rfl, ⟨World.ownsRow_nil _ _ _ _⟩, ⟨Below.refl _ _⟩, ⟨by simp⟩⟩
    case round =>
      obtain ⟨i, o1, rfl, hi, rfl, HOW, HBE, HO⟩ := hrel
      by_cases hlt : i < len
      · have b3 : (i : Int) < (len : Int) := by omega
        obtain ⟨ad, eA, hcell⟩ := read_at (reads_mods HX.out (Mods.of_below (fun _ => False) (below_step HB4.out HBE.out)) (fun _ _ => id)) i hlt
        subst eA
        have hdr : xs.take (i + 1) = xs.take i ++ [xs.getD i 0] := by
          have := HXL.out
          have hg : xs.getD i 0 = xs[i]'(by omega) := by rw [List.getD_eq_getElem?_getD, List.getElem?_eq_getElem (by omega)]; rfl
          rw [List.take_add_one, List.getElem?_eq_getElem (by omega), hg]
          rfl
        have hr0 : ∃ y, y = xs.getD i 0 := ⟨_, rfl⟩
        obtain ⟨y, hy⟩ := hr0
        rw [← hy] at hcell hdr
        have HDR := Aside0.mk hdr
        have h0 := Int.emod_nonneg y (show (1048576 : Int) ≠ 0 by omega)
        have h1 := Int.emod_lt_of_pos y (show (0 : Int) < 1048576 by omega)
        have HPL := Aside0.mk (fun W => Go.Proofs.YtlifdpfhepamfaaPl.place_calls y 1048576 W (by omega) (by omega))
        have hrt : rtI y = (y % 1048576) * 16 + tagR (y % 1048576) := rfl
        generalize y % 1048576 = z at h0 h1 HPL hrt
        have HRT := Aside0.mk hrt
        clear hdr hy hrt
        go_wp2_with fail
        refine (HPL.out _).mono ?_
        rintro e w5 ⟨rfl, nd5, rfl⟩
        have ez : IntKind.u64.wrap z = z := by rw [wrap_u64]; omega
        have ez2 : IntKind.u64.wrap (z * 16) = z * 16 := by rw [wrap_u64]; omega
        have hix := ix_run z h0
        have hor := or_tag z h0 h1
        have HOW5 := Aside0.mk (own_be HOW.out (pw_below_drewN (Below.refl _ wr) nd5))
        have HBE5 := Aside0.mk (pw_below_drewN HBE.out nd5)
        obtain ⟨W5, hW5⟩ : ∃ W5, (wr.drewN nd5).alloc (.cells #[.int .u64 (z * 16 + tagR z)] 25) = W5 := ⟨_, rfl⟩
        have hb5 : Below (wr.drewN nd5).heap.size (wr.drewN nd5) W5 := hW5 ▸ below_alloc (Below.refl _ _) _
        have hn5 : W5.heap[wr.heap.size]? = some (.cells #[.int .u64 (z * 16 + tagR z)] 25 (0, 0)) := by rw [← hW5]; exact heap_alloc_new (wr.drewN nd5) _
        have HOW6 := Aside0.mk (own_be HOW5.out hb5)
        have HBE6 := Aside0.mk (below_step HBE5.out hb5)
        have hol : o1.length = i := by rw [HO.out, List.length_map, List.length_take, HXL.out]; omega
        have HRD5 : Aside0 (ReadsInt W5 .u64 (some ⟨wr.heap.size, 0, none⟩) 1 [z * 16 + tagR z]) := ⟨reads_blk (xs := [z * 16 + tagR z]) hn5 1 (by simp) (by omega)⟩
        have HOL := Aside0.mk (show (o1.length + 1) * 8 ≤ 140737488355328 by omega)
        clear hb5 hn5 hol
        generalize z * 16 + tagR z = r1 at hW5 HRD5 hor HRT
        go_wp2_with (at_builtin; refine print_append_row (w0 := w4) w4.heap.size rfl (.tmp 52) (.tmp 60) 57 25 .u64 8 rfl Try.underlying57 Go.Proofs.YtlifdpfhepamfaaAr.info64 (by decide) u8 o1 [r1] (some ⟨wr.heap.size, 0, none⟩) 1 1 rfl rfl HOW6.out HRD5.out HBE6.out HBE6.out.size HOL.out ?_; intro v1 w6 hown6 hb6 hg6 hat6)
        have HOW7 := Aside0.mk hown6
        have HBE7 := Aside0.mk hb6
        clear hown6 hb6 hg6 hat6 HOW5 HBE5
        go_wp2_with fail
        go_roundg (len - (i + 1))
        case measure => omega
        case rel => exact ⟨i + 1, o1 ++ [r1], rfl, by omega, by go_num, HOW7, HBE7, ⟨by rw [HDR.out, List.map_append, ← HO.out]; simp [HRT.out]⟩⟩
      · obtain rfl : i = len := by omega
        have b3 : ¬ (i : Int) < (i : Int) := by omega
        obtain ⟨A3, c3, hv3, hc3, hr3, hat3⟩ := Go.Proofs.YtlifdpfhepamfaaRowK.Row.reads (Row.of_own HOW.out)
        subst hv3
        have hol : o1 = xs.map rtI := by rw [HO.out, List.take_of_length_le (by have := HXL.out; omega)]
        have himm : Imm o1 := by rw [hol]; exact rt_imm xs
        have hlen : o1.length = i := by rw [hol, List.length_map, HXL.out]
        have HRE := Aside0.mk (reach_calls wr h g gw m (.slice none 0 0) l4 300 [] w.heap.size A3 c3 o1 (HH4.out.below HBE.out) hr3 hc3 (imm_W64 himm) (by omega) 0 [] [] 1 0 (look_imm l4 o1 himm) (bfs_imm l4))
        have HR3 := Aside0.mk hr3
        have hcol := fun (W : World) (hb : Below wr.heap.size wr W) => collect_calls W h g gw m (.slice none 0 0) l4 300 [] w.heap.size A3 c3 o1 0 (HH4.out.below (below_step HBE.out hb)) (reads_mods hr3 (Mods.of_below (fun _ => False) hb) (fun _ _ => id)) hc3 (imm_W64 himm) (by omega) o1 [] [] 1 [] [] (by rw [roots_imm _ _ _ _ himm]; rfl) (scan_imm _ _)
        rw [sz0] at hcol
        have HCOL := Aside0.mk hcol
        have HAT := Aside0.mk hat3
        have HLE := Aside0.mk hlen
        have HC3 := Aside0.mk hc3
        clear hcol hat3 hr3 himm hol HO HOW hlen hc3
        go_wp2_with fail
        refine HRE.out.mono ?_
        rintro e w8 ⟨rfl, hb8⟩
        have HB8 := Aside0.mk hb8
        clear hb8 HRE
        go_wp2_with fail
        refine (HCOL.out w8 HB8.out).mono ?_
        rintro e w9 ⟨A9, c9, g2, gw2, rfl, hr9, hc9, hh9, hm9, hg2, hgw2⟩
        have hlo9 := HLO.out h (.inl rfl)
        have HB9 : Aside0 (Below w.heap.size w w9) := ⟨(below_step (below_step HB4.out HBE.out) HB8.out).trans (hm9.below (below_step (below_step HB4.out HBE.out) HB8.out).size (fun k hk => by subst hk; exact hlo9))⟩
        have hfoot := (HH4.out.foot h (.inl rfl)).2
        have HR39 := Aside0.mk (reads_mods (reads_mods HR3.out (Mods.of_below (fun _ => False) HB8.out) (fun _ _ => id)) hm9 (fun ad e hk => by have h1 := HAT.out ad e; omega))
        have HSW := Aside0.mk (relictlaw00_SameWords.calls 1001 A9 c9 o1 A3 c3 o1 true w9 (Kd.C_of_reads (enc := Value.int .u64) (d := (0 : Int)) (h1 := fun _ => rfl) hr9) hc9 (Kd.C_of_reads (enc := Value.int .u64) (d := (0 : Int)) (h1 := fun _ => rfl) HR39.out) HC3.out (same_self o1 (by have := HLE.out; omega)))
        have HH9 := Aside0.mk hh9
        clear hr9 hc9 hh9 hm9 hlo9 hfoot HCOL
        go_wp2_with fail
        refine HSW.out.mono ?_
        rintro e w10 ⟨rfl, hd10⟩
        have HB10 := Aside0.mk (hd10.below)
        have hh10 := HH9.out.below HB10.out
        obtain ⟨c0, c1, c2, f1⟩ := hh10.cells
        have HU := Aside0.mk (used_calls w10 g2 gw2 0 [] hh10.ar)
        have HS := Aside0.mk (fun nd => size_calls (w10.drewN nd) g2 gw2 0 [] (hh10.ar.drewN nd))
        clear hh10 hd10 HSW
        go_wp2_with fail
        refine HU.out.mono ?_
        rintro e w11 ⟨rfl, nd11, rfl⟩
        go_wp2_with fail
        refine (HS.out nd11).mono ?_
        rintro e w12 ⟨rfl, nd12, rfl⟩
        go_wp2_with fail
        refine (Go.Proofs.YtlifdpfhepamfaaCa.awake_calls _).mono ?_
        rintro e w13 ⟨rfl, hb13⟩
        have HBF := Aside0.mk (below_step (pw_below_drewN (below_step HB9.out HB10.out) (nd11 + nd12)) hb13)
        clear hb13
        go_wp2_with fail
        go_ret
        exact ⟨rfl, HBF.out⟩
end Go.Proofs.YtlifdpfhepamfaaCn
