/- CopyingRound: the walk. -/
import Derived.Test.YtlifdpfhepamfaaCo
import Derived.Deep.RegionHeld3
import Derived.StillTailTactics
namespace Go.Proofs.YtlifdpfhepamfaaCw
open Go.RowKit Go.Maps Go.Proofs.YtlifdpfhepamfaaW.PrintWords Go.Proofs.YtlifdpfhepamfaaW.PrintLast Go.Proofs.YtlifdpfhepamfaaW.PrintMore Go.Proofs.YtlifdpfhepamfaaMem Go.Proofs.YtlifdpfhepamfaaLeaf Go.Proofs.YtlifdpfhepamfaaBits Go.Proofs.Ytlifdpfhepamfaa.PHe Go.Proofs.YtlifdpfhepamfaaRow Go.Proofs.YtlifdpfhepamfaaAr Go.Proofs.YtlifdpfhepamfaaHp Go.Proofs.YtlifdpfhepamfaaHo Go.Proofs.YtlifdpfhepamfaaWd Go.Proofs.YtlifdpfhepamfaaCp Go.Proofs.YtlifdpfhepamfaaCm Go.Proofs.YtlifdpfhepamfaaCk Go.Proofs.YtlifdpfhepamfaaCc Go.Proofs.YtlifdpfhepamfaaRd Go.Proofs.YtlifdpfhepamfaaRt Go.Proofs.YtlifdpfhepamfaaRe Go.Proofs.YtlifdpfhepamfaaRf Go.Proofs.YtlifdpfhepamfaaRing Go.Proofs.YtlifdpfhepamfaaCo Go.Proofs
set_option linter.unusedVariables false
set_option linter.unusedSimpArgs false
theorem i1 : relictlaw00_I1.f 100 1 = some (1, false, [1], (⟨#[]⟩ : ByteArray), 0, ([] : List (S43))) := by kernel_rfl
theorem sm : relictref03_Small.f 100 false [1] = some true := by kernel_rfl
theorem field_I (W : World) (a b c d e f : Value) : (Instr.field 43 (.agg #[a, b, c, d, e, f]) 1).run Try.prog W = .ok (.agg #[b, c]) W := by kernel_rfl
-- tables
def T5 : Bool × List (List Nat × List Nat) := (true, [([], []), ([0], [0]), ([1], [1]), ([2], [2]), ([], []), ([4], [4]), ([5], [5]), ([3, 6, 5], [3, 6])])
def B5 : List Nat := [0, 1, 3, 7, 0, 16, 48, 127]
theorem tab5 : rtab .any (opsOf Try.f11 5) = T5 := by kernel_rfl
theorem bits5 : waitsOk T5.2 B5 = true := by kernel_rfl
def T12 : Bool × List (List Nat × List Nat) := (true, [([], []), ([0], [0]), ([1], [1]), ([2], [2]), ([], []), ([], []), ([5], [5]), ([4, 6], [4, 6]), ([7], [7]), ([], []), ([], []), ([10], [10]), ([], []), ([11, 12], [11, 12]), ([13], [13]), ([9, 14], [9, 14]), ([15], [15]), ([16], [16]), ([17], [17]), ([3, 8, 18], [3, 8, 18])])
def B12 : List Nat := [0, 1, 3, 7, 0, 0, 32, 112, 240, 0, 0, 1024, 0, 7168, 15360, 32256, 65024, 130560, 261632, 524287]
theorem tab12 : rtab .any (opsOf Try.f11 12) = T12 := by kernel_rfl
theorem bits12 : waitsOk T12.2 B12 = true := by kernel_rfl
def T22 : Bool × List (List Nat × List Nat) := (true, [([], []), ([0], [0]), ([1], [1]), ([2], [2]), ([3], [3]), ([4, 3], [3, 4]), ([5, 3], [3, 5]), ([6, 3], [3, 6]), ([3], [3]), ([7, 8, 3, 3], [3, 7, 8]), ([3], [3]), ([3], [3]), ([10, 11, 3], [3, 10, 11]), ([3], [3]), ([12, 13, 3], [3, 12, 13]), ([14, 3], [3, 14]), ([15, 3], [3, 15]), ([16, 3], [3, 16]), ([9, 17, 3], [3, 9, 17]), ([3, 18], [3, 18])])
def B22 : List Nat := [0, 1, 3, 7, 15, 31, 63, 127, 15, 511, 15, 15, 3087, 15, 15375, 31759, 64527, 130063, 262143, 524287]
theorem tab22 : rtab .any (opsOf Try.f11 22) = T22 := by kernel_rfl
theorem bits22 : waitsOk T22.2 B22 = true := by kernel_rfl
-- tables done
set_option maxHeartbeats 8000000 in
set_option maxRecDepth 100000 in
theorem law_calls (n at_ extra : Int) (w : World) :
    Calls Try.prog 11 #[.int .i64 n, .int .i64 at_, .int .i64 extra] w fun e w' => e = .returned (.bool true) ∧ Below w.heap.size w w' := by
  have r0 := Int.emod_nonneg n (show (40 : Int) ≠ 0 by omega)
  have r1 := Int.emod_lt_of_pos n (show (0 : Int) < 40 by omega)
  obtain ⟨kk, hkk⟩ : ∃ kk : Nat, n % 40 = (kk : Int) := ⟨(n % 40).toNat, by omega⟩
  have HP1 := Aside0.mk (fun W => Go.Proofs.YtlifdpfhepamfaaPl.place_calls n 40 W (by omega) (by omega))
  rw [hkk] at HP1 r1
  have q0 := Int.emod_nonneg extra (show (5 : Int) ≠ 0 by omega)
  have q1 := Int.emod_lt_of_pos extra (show (0 : Int) < 5 by omega)
  obtain ⟨ee, hee⟩ : ∃ ee : Nat, extra % 5 = (ee : Int) := ⟨(extra % 5).toNat, by omega⟩
  have HP2 : Aside0 (∀ W, Calls Try.prog 33 #[.int .i64 extra, .int .i64 5] W fun e w' => e = .returned (.int .i64 (extra % 5)) ∧ Below W.heap.size W w') := ⟨fun W => (Go.Proofs.YtlifdpfhepamfaaPl.place_calls extra 5 W (by omega) (by omega)).mono (by rintro e w' ⟨he, nd, rfl⟩; exact ⟨he, pw_below_drewN (Below.refl _ _) _⟩)⟩
  rw [hee] at HP2 q1
  have k39 : kk ≤ 39 := by omega
  have e4 : ee ≤ 4 := by omega
  have s0 := Int.emod_nonneg at_ (show (1 + (kk : Int)) ≠ 0 by omega)
  have s1 := Int.emod_lt_of_pos at_ (show (0 : Int) < 1 + (kk : Int) by omega)
  obtain ⟨f, hf⟩ : ∃ f : Nat, at_ % (1 + (kk : Int)) = (f : Int) := ⟨(at_ % (1 + (kk : Int))).toNat, by omega⟩
  have HP3 := Aside0.mk (fun W => Go.Proofs.YtlifdpfhepamfaaPl.place_calls at_ (1 + (kk : Int)) W (by omega) (by omega))
  rw [hf] at HP3 s1
  have f39 : f ≤ kk := by omega
  have HNEW := Aside0.mk (fun W B hB => new_calls (2 * (1 + (kk : Int)) + 10) W B hB)
  rw [size_new (show 2 * (1 + (kk : Int)) + 10 = ((2 * kk + 12 : Nat) : Int) by omega) (by omega)] at HNEW
  obtain ⟨nn, hnn⟩ : ∃ nn, 2 * kk + 12 = nn := ⟨_, rfl⟩
  rw [hnn] at HNEW
  have HNN := Aside0.mk hnn
  clear r0 r1 q0 q1 s0 s1 hkk hee hf hnn
  go_enter Try.func11, Try.ntmps11
  go_wp2_with fail
  refine (HP1.out _).mono ?_
  rintro e w1 ⟨rfl, nd1, rfl⟩
  go_wp2_with fail
  refine (HNEW.out _ _ (Nat.le_refl _)).mono ?_
  rintro e w2 ⟨h, g, gw, m, rfl, hh, hb, hlo⟩
  have HH := Aside0.mk hh
  have HB := Aside0.mk (show Below w.heap.size w w2 from (pw_below_drewN (Below.refl _ _) nd1).trans hb)
  have HLO := Aside0.mk (fun k hk => show w.heap.size ≤ k from hlo k hk)
  obtain ⟨c0, c1, c2, f1⟩ := hh.cells
  clear hh hb hlo HNEW HP1
  go_wp2_with fail
  have HAL := Aside0.mk (fun (V : World) (hv : Below w2.heap.size w2 V) => alloc_calls V g gw nn [] ((ee : Int) * 2) (HH.out.below hv).ar)
  obtain ⟨e, he⟩ : ∃ e, ee * 2 = e := ⟨_, rfl⟩
  obtain ⟨ok1, rs1⟩ := alloc_ok (l := []) (n := nn) (k := e) (by have := HNN.out; simp; omega)
  have hec : (ee : Int) * 2 = (e : Int) := by omega
  have HEC := Aside0.mk hec
  have HRS1 := Aside0.mk rs1
  clear ok1 rs1 hec c0 c1 c2 f1
  -- region 5
  have HBB := Aside0.mk (below_drew (Below.refl w2.heap.size w2))
  refine start_ (n := 8) (S := fun w' => Below w2.heap.size w2 w') (ds := [7]) #[false, false, false, false, false, false, false, false] (by kernel_rfl) rfl rfl HBB.out (fun hHeld => ?_); refine with_tabW tab5 bits5 (fun HT_ HW_ => ?_)
  generalize w2.drew = wd at HBB hHeld ⊢
  refine pure_ (i := 0) (N := (some 35)) (v := ?_) (a' := ?_) #[true, false, false, false, false, false, false, false] rfl rfl (any_of HT_.out (by kernel_rfl)) (fun _ _ _ h => h) (Or.inl ⟨by rfl, ?_⟩) ?_ ?_
  rotate_left; (intro w'; go_simp; with_reducible rfl)
  rotate_left; (simp only [Act.put, List.setIfInBounds_toArray, List.set_cons_zero, List.set_cons_succ, i64_w, i32_w]; rfl)
  refine pure_ (i := 1) (N := (some 36)) (v := ?_) (a' := ?_) #[true, true, false, false, false, false, false, false] rfl rfl (any_of HT_.out (by kernel_rfl)) (fun _ _ _ h => h) (Or.inl ⟨by rfl, ?_⟩) ?_ ?_
  rotate_left; (intro w'; go_simp; with_reducible rfl)
  rotate_left; (simp only [Act.put, List.setIfInBounds_toArray, List.set_cons_zero, List.set_cons_succ, i64_w, i32_w]; rfl)
  refine pure_ (i := 2) (N := (some 37)) (v := ?_) (a' := ?_) #[true, true, true, false, false, false, false, false] rfl rfl (any_of HT_.out (by kernel_rfl)) (fun _ _ _ h => h) (Or.inl ⟨by rfl, ?_⟩) ?_ ?_
  rotate_left; (intro w'; go_simp; with_reducible rfl)
  rotate_left; (simp only [Act.put, List.setIfInBounds_toArray, List.set_cons_zero, List.set_cons_succ, i64_w, i32_w]; rfl)
  refine take_ (i := 3) (N := (some 38)) (v := ?_) (a' := ?_) #[true, true, true, true, false, false, false, false] rfl rfl (take_ofW HT_.out HW_.out (by kernel_rfl)) (fun _ _ _ h => h) (Or.inl ⟨by rfl, ?_⟩) hHeld ?_ ?_
  rotate_left; (intro w' hs; have s0 := pw_cell_below hs HH.out.cells.1; go_simp; with_reducible rfl)
  rotate_left; (simp only [Act.put, List.setIfInBounds_toArray, List.set_cons_zero, List.set_cons_succ, i64_w, i32_w]; rfl)
  refine pure_ (i := 4) (N := (some 39)) (v := ?_) (a' := ?_) #[true, true, true, true, true, false, false, false] rfl rfl (any_of HT_.out (by kernel_rfl)) (fun _ _ _ h => h) (Or.inl ⟨by rfl, ?_⟩) ?_ ?_
  rotate_left; (intro w'; go_simp; with_reducible rfl)
  rotate_left; (simp only [Act.put, List.setIfInBounds_toArray, List.set_cons_zero, List.set_cons_succ, i64_w, i32_w]; rfl)
  refine one_ (i := 5) (N := (some 40)) #[true, true, true, true, true, true, false, false] rfl rfl (one_of HT_.out (by kernel_rfl)) (by decide) (fun K hK => ?_)
  refine goes_ Try.func33 (by kernel_rfl) rfl #[.int .i64 extra, .int .i64 5] (by rfl) rfl rfl (by (try simp only [List.map_toArray, List.map_cons, List.map_nil]); first | done | rfl) ?_
  refine (HP2.out _).mono ?_
  rintro e wp ⟨rfl, hb⟩
  refine ⟨_, rfl, ?_⟩
  have n0_ := Aside0.mk (below_step HBB.out hb)
  clear HBB hHeld hb
  have HBB := n0_
  clear n0_
  refine hK.out _ _ HBB.out (fun hHeld => ?_)
  clear hK K
  refine norm_ (a' := ?_) ?_ ?_
  rotate_left
  · show Act.put _ (some 40) _ = _
    simp only [Act.put, List.setIfInBounds_toArray, List.set_cons_zero, List.set_cons_succ, i64_w, i32_w]
    rfl
  refine pure_ (i := 6) (N := (some 41)) (v := (.int .i64 ((ee : Int) * 2))) (a' := ?_) #[true, true, true, true, true, true, true, false] rfl rfl (any_of HT_.out (by kernel_rfl)) (fun _ _ _ h => h) (Or.inl ⟨by rfl, ?_⟩) ?_ ?_
  · (intro w'; go_simp; all_goals (simp only [i64_w]; congr 3; unfold wrap64; omega))
  rotate_left; (simp only [Act.put, List.setIfInBounds_toArray, List.set_cons_zero, List.set_cons_succ, i64_w, i32_w]; rfl)
  refine last_ (i := 7) (N := some 42) #[true, true, true, true, true, true, true, true] rfl rfl (one_of HT_.out (by kernel_rfl)) (by decide) (fun K hK => ?_)
  refine goes_ Try.func45 (by kernel_rfl) rfl #[.pointer (some ⟨g, 0, none⟩), .int .i64 ((ee : Int) * 2)] (by rfl) rfl rfl (by (try simp only [List.map_toArray, List.map_cons, List.map_nil]); first | done | rfl) ?_
  refine (HAL.out _ HBB.out).mono ?_
  rintro e_ wm ⟨rfl, ha3, hm3⟩
  refine ⟨_, rfl, ?_⟩
  have HA3 := Aside0.mk (Go.Proofs.YtlifdpfhepamfaaHo.arena (HH.out.below HBB.out) ha3 (hm3.mono (S' := fun i => i = g ∨ i = gw) (fun i hi => .inl hi)))
  have HB3 := Aside0.mk ((below_step HB.out HBB.out).trans (HA3.out.2.below (below_step HB.out HBB.out).size (fun k hk => HLO.out k hk)))
  clear ha3 hm3
  refine hK.out _ _ ?_
  clear hK K
  refine norm_ (a' := ?_) ?_ ?_
  rotate_left
  · show Act.put _ (some 42) _ = _
    simp only [Act.put, List.setIfInBounds_toArray, List.set_cons_zero, List.set_cons_succ, i64_w, i32_w]
    rfl
  refine done_ (done_of HT_.out (by kernel_rfl)) ?_
  -- region 5 done
  clear HT_ HW_ HAL HP2
  rw [HEC.out, HRS1.out] at HA3
  have HU := Aside0.mk (used_calls wm g gw nn _ HA3.out.1.ar)
  rw [show List.length ((([] : List Int) ++ (List.replicate e (0 : Int) : List Int)) : List Int) = e by simp] at HU
  have hk2 : 2 * (1 + (kk : Int)) = ((2 * (kk + 1) : Nat) : Int) := by omega
  have HAL := Aside0.mk (fun (nd : Nat) => alloc_calls (wm.drewN nd) g gw nn _ (2 * (1 + (kk : Int))) (HA3.out.1.ar.drewN nd))
  obtain ⟨ok1, rs1⟩ := alloc_ok (l := ([] : List Int) ++ List.replicate e 0) (n := nn) (k := 2 * (kk + 1)) (by have := HNN.out; simp; omega)
  rw [← hk2] at rs1
  rw [rs1] at HAL
  rw [List.nil_append] at HAL HA3
  have HE8 := Aside0.mk (show e ≤ 8 by omega)
  clear ok1 rs1 hk2
  obtain ⟨c0, c1, c2, f1⟩ := HA3.out.1.cells
  go_wp2_with fail
  refine HU.out.mono ?_
  rintro e_ w4 ⟨rfl, nd4, rfl⟩
  go_wp2_with fail
  refine (HAL.out nd4).mono ?_
  rintro e_ w5 ⟨rfl, ha5, hm5⟩
  have hh5 := Go.Proofs.YtlifdpfhepamfaaHo.arena (HA3.out.1.below (pw_below_drewN (Below.refl _ wm) nd4)) ha5 (hm5.mono (S' := fun i => i = g ∨ i = gw) (fun i hi => .inl hi))
  have HH5 := Aside0.mk hh5.1
  have HB5 := Aside0.mk ((pw_below_drewN HB3.out nd4).trans (hh5.2.below (pw_below_drewN HB3.out nd4).size (fun k hk => HLO.out k hk)))
  clear ha5 hm5 hh5 c0 c1 c2 f1 HU HAL
  go_wp2_with fail
  go_loopg [10] (kk + 1) (fun q v10 wr => ∃ (i : Nat) (l : List Int), q = kk + 1 - i ∧ i ≤ kk + 1 ∧ v10 = .int .i64 i ∧ Aside0 (Pt l e (kk + 1) i) ∧ Aside0 (Hp w.heap.size wr h g gw m (.slice none 0 0) l nn []) ∧ Aside0 (Below w.heap.size w wr))
  case atStart => exact ⟨0, _, by omega, by omega, rfl, ⟨Pt.start e (kk + 1)⟩, HH5, HB5⟩
  case round =>
    obtain ⟨i, l, rfl, hi, rfl, HPT, HHL, HBL⟩ := hrel
    by_cases hlt : i < kk + 1
    · have b1 : (i : Int) < 1 + (kk : Int) := by omega
      have horA : bits .or .u64 ((i : Int) * 16) 3 = 16 * (i : Int) + 3 := by rw [or_join 4 ((i : Int) * 16) 3 (by omega) (by omega) (by omega) (by omega) (by omega) (by omega)]; omega
      have he8 := HE8.out
      have hi40 : i ≤ 40 := by omega
      have HST := Aside0.mk (set_calls wr g gw nn l ((e : Int) + 2 * (i : Int)) (16 * (i : Int) + 3) HHL.out.ar (by omega) (by omega))
      obtain ⟨c0, c1, c2, f1⟩ := HHL.out.cells
      go_wp2_with fail
      refine HST.out.mono ?_
      rintro e_ w6 ⟨rfl, ha6, hm6⟩
      have hh6 := Go.Proofs.YtlifdpfhepamfaaHo.arena HHL.out ha6 (hm6.mono (S' := fun i => i = g ∨ i = gw) (fun i hi => .inr hi))
      have HH6 := Aside0.mk hh6.1
      have HB6 := Aside0.mk (HBL.out.trans (hh6.2.below HBL.out.size (fun k hk => HLO.out k hk)))
      clear ha6 hm6 hh6 c0 c1 c2 f1 HST horA
      obtain ⟨c0, c1, c2, f1⟩ := HH6.out.cells
      obtain ⟨t, ht⟩ : ∃ t, (i + 1) % (kk + 1) = t := ⟨_, rfl⟩
      have htk : t ≤ 39 := by have := Nat.mod_lt (i + 1) (show 0 < kk + 1 by omega); omega
      have hrem : Int.tmod ((i : Int) + 1) (1 + (kk : Int)) = (t : Int) := by rw [Int.tmod_eq_emod_of_nonneg (by omega), ← ht, Int.natCast_emod]; congr 1; omega
      have hne : ¬ (1 + (kk : Int) = 0) := by omega
      have HT := Aside0.mk ht
      clear ht
      go_wp2_with fail
      have horB : bits .or .u64 (((e : Int) + 2 * (t : Int)) * 4) 1 = 4 * ((e : Int) + 2 * (t : Int)) + 1 := by rw [or_join 2 (((e : Int) + 2 * (t : Int)) * 4) 1 (by omega) (by omega) (by omega) (by omega) (by omega) (by omega)]; omega
      have HST := Aside0.mk (set_calls w6.drew g gw nn _ ((e : Int) + 2 * (i : Int) + 1) (4 * ((e : Int) + 2 * (t : Int)) + 1) (HH6.out.below (below_drew (Below.refl _ w6))).ar (by omega) (by omega))
      go_still_tail 19, (by kernel_rfl)
      change wpList _ _ _ _ _ w6.drew
      have a1 : IntKind.i64.wrap (2 * (i : Int)) = 2 * (i : Int) := by rw [i64_w]; unfold wrap64; omega
      have a2 : IntKind.i64.wrap ((e : Int) + 2 * (i : Int)) = (e : Int) + 2 * (i : Int) := by rw [i64_w]; unfold wrap64; omega
      have a3 : IntKind.i64.wrap ((e : Int) + 2 * (i : Int) + 1) = (e : Int) + 2 * (i : Int) + 1 := by rw [i64_w]; unfold wrap64; omega
      have a4 : IntKind.i64.wrap ((i : Int) + 1) = (i : Int) + 1 := by rw [i64_w]; unfold wrap64; omega
      have a5 : IntKind.i64.wrap (2 * (t : Int)) = 2 * (t : Int) := by rw [i64_w]; unfold wrap64; omega
      have a6 : IntKind.i64.wrap ((e : Int) + 2 * (t : Int)) = (e : Int) + 2 * (t : Int) := by rw [i64_w]; unfold wrap64; omega
      have a7 : IntKind.u64.wrap ((e : Int) + 2 * (t : Int)) = (e : Int) + 2 * (t : Int) := by rw [wrap_u64]; omega
      have a8 : IntKind.u64.wrap (((e : Int) + 2 * (t : Int)) * 4) = ((e : Int) + 2 * (t : Int)) * 4 := by rw [wrap_u64]; omega
      simp only [a1, a2, a3, a4, hrem, a5, a6, a7, a8, horB]
      clear a1 a2 a3 a4 a5 a6 a7 a8 horB hrem hne
      clear c0 c1 c2 f1
      go_wp2_with fail
      refine HST.out.mono ?_
      rintro e_ w7 ⟨rfl, ha7, hm7⟩
      have hh7 := Go.Proofs.YtlifdpfhepamfaaHo.arena (HH6.out.below (below_drew (Below.refl _ w6))) ha7 (hm7.mono (S' := fun i => i = g ∨ i = gw) (fun i hi => .inr hi))
      have HH7 := Aside0.mk hh7.1
      have HB7 := Aside0.mk ((below_drew HB6.out).trans (hh7.2.below (below_drew HB6.out).size (fun k hk => HLO.out k hk)))
      clear ha7 hm7 hh7 HST
      have hpt := HPT.out.step (show i < kk + 1 by omega)
      rw [HT.out, show ((e + 2 * i : Nat) : Int) = (e : Int) + 2 * (i : Int) by omega, show ((e + 2 * i + 1 : Nat) : Int) = (e : Int) + 2 * (i : Int) + 1 by omega, show ((e + 2 * t : Nat) : Int) = (e : Int) + 2 * (t : Int) by omega] at hpt
      have HPT7 := Aside0.mk hpt
      clear hpt
      go_wp2_with fail
      go_roundg (kk + 1 - (i + 1))
      case measure => omega
      case rel => exact ⟨i + 1, _, rfl, by omega, by go_num, HPT7, HH7, HB7⟩
    · obtain rfl : i = kk + 1 := by omega
      have b1 : ¬ (((kk + 1 : Nat) : Int) < 1 + (kk : Int)) := by omega
      have b2 : ¬ ((kk : Int) + 1 < 1 + (kk : Int)) := by omega
      have HRG := Aside0.mk (HPT.out.rg)
      have he8 := HE8.out
      clear HPT HH5 HB5 HA3 HB3 HH HB
      go_wp2_with fail
      refine (HP3.out _).mono ?_
      rintro e_ w6 ⟨rfl, nd6, rfl⟩
      have HH6 := Aside0.mk (HHL.out.below (pw_below_drewN (Below.refl _ wr) nd6))
      have HB6 := Aside0.mk (pw_below_drewN HBL.out nd6)
      clear HHL HBL HP3
      have horC : bits .or .u64 (((e : Int) + 2 * (f : Int)) * 4) 1 = 4 * ((e : Int) + 2 * (f : Int)) + 1 := by rw [or_join 2 (((e : Int) + 2 * (f : Int)) * 4) 1 (by omega) (by omega) (by omega) (by omega) (by omega) (by omega)]; omega
      obtain ⟨W7, hW7⟩ : ∃ W7, (wr.drewN nd6).alloc (.cells #[.int .u64 (4 * ((e : Int) + 2 * (f : Int)) + 1)] 25) = W7 := ⟨_, rfl⟩
      have hb7 : Below (wr.drewN nd6).heap.size (wr.drewN nd6) W7 := hW7 ▸ below_alloc (Below.refl _ _) _
      have hn7 : W7.heap[wr.heap.size]? = some (.cells #[.int .u64 (4 * ((e : Int) + 2 * (f : Int)) + 1)] 25 (0, 0)) := by rw [← hW7]; exact heap_alloc_new (wr.drewN nd6) _
      have hfk : f < kk + 1 := by omega
      obtain ⟨to0, now0, h1, hI⟩ := ring_start HRG.out hfk
      obtain ⟨to2, now2, h2, hF⟩ := ring_scan HRG.out hfk kk 0 to0 now0 (by omega) hI
      have hpx : px (e + 2 * f) = 4 * ((e : Int) + 2 * (f : Int)) + 1 := by unfold px; omega
      rw [hpx] at h1
      have hsz : sizeA (2 * (1 + (kk : Int))) = 2 * (kk + 1) := size_new (by omega) (by omega)
      have hcol := collect_calls W7 h g gw m (.slice none 0 0) l nn [] w.heap.size (some ⟨wr.heap.size, 0, none⟩) 1 [4 * ((e : Int) + 2 * (f : Int)) + 1] (2 * (1 + (kk : Int))) (HH6.out.below hb7) (reads_blk (xs := [4 * ((e : Int) + 2 * (f : Int)) + 1]) hn7 1 (by simp) (by omega)) (by simp) (by intro y hy; simp at hy; omega) (by simp) [px 0] to0 now0 (kk + 2) to2 now2 (by rw [hsz]; exact h1) (by rw [hsz]; exact h2)
      rw [hsz] at hcol
      have HCOL := Aside0.mk hcol
      have HFI := Aside0.mk hF
      have HB7 := Aside0.mk (below_step HB6.out hb7)
      clear h1 hI h2 hF hpx hsz hcol hb7 hn7
      go_wp2_with fail
      refine HCOL.out.mono ?_
      rintro e_ w8 ⟨A8, c8, g2, gw2, rfl, hr8, hc8, hh8, hm8, hg2, hgw2⟩
      have el : ([px 0] : List Int).length = 1 := rfl
      rw [el] at hr8 hc8 ⊢
      obtain ⟨ad, eA, hcell⟩ := read_at hr8 0 (by omega)
      subst eA
      obtain ⟨ab, ao, asp⟩ := ad
      replace hcell : w8.cell? ⟨ab, ao, asp⟩ = some (.int .u64 1) := hcell
      have HB8 : Aside0 (Below w.heap.size w w8) := ⟨HB7.out.trans (hm8.below HB7.out.size (fun k hk => by subst hk; exact HLO.out _ (.inl rfl)))⟩
      have HH8 := Aside0.mk hh8
      have HC8 := Aside0.mk hcell
      obtain ⟨c0, c1, c2, f1⟩ := hh8.cells
      have HU := Aside0.mk (used_calls w8 g2 gw2 _ to2 hh8.ar)
      rw [HFI.out.len, show ((2 * (kk + 1) : Nat) : Int) = 2 * (1 + (kk : Int)) by omega] at HU
      clear hr8 hc8 hh8 hm8 hg2 hgw2 el HCOL HH6 HB6 HB7 HRG
      go_wp2_with fail
      refine HU.out.mono ?_
      rintro e_ w9 ⟨rfl, nd9, rfl⟩
      go_wp2_with fail
      go_loopg [14, 15] (2 * (kk + 1)) (fun q v14 v15 wr => ∃ i : Nat, q = 2 * (kk + 1) - i ∧ i ≤ 2 * (kk + 1) ∧ v15 = .int .i64 i ∧ v14 = .int .u64 (4 * ((2 * (i % (kk + 1)) : Nat) : Int) + 1) ∧ Aside0 (Below w8.heap.size w8 wr))
      case atStart => exact ⟨0, by omega, by omega, rfl, rfl, ⟨pw_below_drewN (Below.refl _ w8) nd9⟩⟩
      case round =>
        obtain ⟨i, rfl, hi2, rfl, rfl, HBQ⟩ := hrel
        by_cases hlt2 : i < 2 * (kk + 1)
        · have b3 : (i : Int) < 2 * (1 + (kk : Int)) := by omega
          obtain ⟨t, ht⟩ : ∃ t, i % (kk + 1) = t := ⟨_, rfl⟩
          have htk : t < kk + 1 := by rw [← ht]; exact Nat.mod_lt _ (by omega)
          have hca := HFI.out.ca t htk
          have hcb := HFI.out.cb t htk
          rw [ht]
          have HT := Aside0.mk ht
          clear ht
          have e2 : ((2 * t : Nat) : Int) = 2 * (t : Int) := by omega
          rw [e2]
          have hshr : (4 * (2 * (t : Int)) + 1) / 4 = 2 * (t : Int) := by omega
          obtain ⟨m9, hm9⟩ : ∃ m9, (f + t) % (kk + 1) = m9 := ⟨_, rfl⟩
          have hm40 : m9 ≤ 39 := by have := Nat.mod_lt (f + t) (show 0 < kk + 1 by omega); omega
          have hfi : Int.tmod ((f : Int) + (i : Int)) (1 + (kk : Int)) = (m9 : Int) := by
            rw [Int.tmod_eq_emod_of_nonneg (by omega), ← hm9, ← HT.out, Nat.add_mod_mod, Int.natCast_emod]
            congr 1
            omega
          have hand : bits .and .u64 (4 * (2 * (t : Int)) + 1) 3 = 1 := by rw [u64_and3]; omega
          have hor : bits .or .u64 ((m9 : Int) * 16) 3 = 16 * (m9 : Int) + 3 := by rw [or_join 4 ((m9 : Int) * 16) 3 (by omega) (by omega) (by omega) (by omega) (by omega) (by omega)]; omega
          have HFA := Aside0.mk (And.intro hand (And.intro (show IntKind.i64.wrap ((f : Int) + (i : Int)) = (f : Int) + (i : Int) by rw [i64_w]; unfold wrap64; omega) (And.intro hfi (And.intro (show IntKind.u64.wrap (m9 : Int) = (m9 : Int) by rw [wrap_u64]; omega) (And.intro (show IntKind.u64.wrap ((m9 : Int) * 16) = (m9 : Int) * 16 by rw [wrap_u64]; omega) (And.intro hor (show ¬ (1 + (kk : Int) = 0) by omega)))))))
          have HHQ := Aside0.mk (HH8.out.below HBQ.out)
          have hw0 := word_nat (l := to2) (t := 2 * t) (by rw [HFI.out.len]; omega)
          have hw1 := word_nat (l := to2) (t := 2 * t + 1) (by rw [HFI.out.len]; omega)
          rw [hca, hm9, e2] at hw0
          rw [hcb, show ((2 * t + 1 : Nat) : Int) = 2 * (t : Int) + 1 by omega] at hw1
          have HWD : Aside0 (∀ V, Below wr.heap.size wr V → Calls Try.prog 55 #[.pointer (some ⟨g2, 0, none⟩), .int .i64 (2 * (t : Int))] V fun e w' => e = .returned (.int .u64 (16 * (m9 : Int) + 3)) ∧ Below V.heap.size V w') := ⟨fun V hv => (word_calls V g2 gw2 _ to2 (2 * (t : Int)) (HHQ.out.below hv).ar).mono (by rintro e w' ⟨he, nd, rfl⟩; rw [hw0] at he; exact ⟨he, pw_below_drewN (Below.refl _ _) _⟩)⟩
          have HWE : Aside0 (∀ V, Below wr.heap.size wr V → Calls Try.prog 55 #[.pointer (some ⟨g2, 0, none⟩), .int .i64 (2 * (t : Int) + 1)] V fun e w' => e = .returned (.int .u64 (px (2 * ((t + 1) % (kk + 1))))) ∧ Below V.heap.size V w') := ⟨fun V hv => (word_calls V g2 gw2 _ to2 (2 * (t : Int) + 1) (HHQ.out.below hv).ar).mono (by rintro e w' ⟨he, nd, rfl⟩; rw [hw1] at he; exact ⟨he, pw_below_drewN (Below.refl _ _) _⟩)⟩
          clear e2 hca hcb hw0 hw1 hm9 hfi hand hor
          go_wp2_with fail
          -- region 22
          have HBB := Aside0.mk (below_drew (Below.refl wr.heap.size wr))
          refine start_ (n := 20) (S := fun w' => Below wr.heap.size wr w') (ds := []) #[false, false, false, false, false, false, false, false, false, false, false, false, false, false, false, false, false, false, false, false] (by kernel_rfl) rfl rfl HBB.out (fun hHeld => ?_); refine with_tabW tab22 bits22 (fun HT_ HW_ => ?_)
          generalize wr.drew = wd at HBB hHeld ⊢
          refine pure_ (i := 0) (N := (some 147)) (v := ?_) (a' := ?_) #[true, false, false, false, false, false, false, false, false, false, false, false, false, false, false, false, false, false, false, false] rfl rfl (any_of HT_.out (by kernel_rfl)) (fun _ _ _ h => h) (Or.inl ⟨by rfl, ?_⟩) ?_ ?_
          rotate_left; (intro w'; go_simp; with_reducible rfl)
          rotate_left; (simp only [Act.put, List.setIfInBounds_toArray, List.set_cons_zero, List.set_cons_succ, i64_w, i32_w]; rfl)
          refine pure_ (i := 1) (N := (some 148)) (v := (.int .u64 1)) (a' := ?_) #[true, true, false, false, false, false, false, false, false, false, false, false, false, false, false, false, false, false, false, false] rfl rfl (any_of HT_.out (by kernel_rfl)) (fun _ _ _ h => h) (Or.inl ⟨by rfl, ?_⟩) ?_ ?_
          · (intro w'; have hf0 := HFA.out.1; have hf1 := HFA.out.2.1; have hf2 := HFA.out.2.2.1; have hf3 := HFA.out.2.2.2.1; have hf4 := HFA.out.2.2.2.2.1; have hf5 := HFA.out.2.2.2.2.2.1; have hf6 := HFA.out.2.2.2.2.2.2; go_simp; all_goals (first | done | rfl | (simp only [hf0, hf1, hf2, hf3, hf4, hf5, hf6]; done) | (simp [hf0, hf1, hf2, hf3, hf4, hf5, hf6]; done) | trace_state))
          rotate_left; (simp only [Act.put, List.setIfInBounds_toArray, List.set_cons_zero, List.set_cons_succ, i64_w, i32_w]; rfl)
          refine pure_ (i := 2) (N := (some 149)) (v := (.bool false)) (a' := ?_) #[true, true, true, false, false, false, false, false, false, false, false, false, false, false, false, false, false, false, false, false] rfl rfl (any_of HT_.out (by kernel_rfl)) (fun _ _ _ h => h) (Or.inl ⟨by rfl, ?_⟩) ?_ ?_
          · (intro w'; have hf0 := HFA.out.1; have hf1 := HFA.out.2.1; have hf2 := HFA.out.2.2.1; have hf3 := HFA.out.2.2.2.1; have hf4 := HFA.out.2.2.2.2.1; have hf5 := HFA.out.2.2.2.2.2.1; have hf6 := HFA.out.2.2.2.2.2.2; go_simp; all_goals (first | done | rfl | (simp only [hf0, hf1, hf2, hf3, hf4, hf5, hf6]; done) | (simp [hf0, hf1, hf2, hf3, hf4, hf5, hf6]; done) | trace_state))
          rotate_left; (simp only [Act.put, List.setIfInBounds_toArray, List.set_cons_zero, List.set_cons_succ, i64_w, i32_w]; rfl)
          refine pure_ (i := 3) (N := (some 150)) (v := ?_) (a' := ?_) #[true, true, true, true, false, false, false, false, false, false, false, false, false, false, false, false, false, false, false, false] rfl rfl (any_of HT_.out (by kernel_rfl)) (fun _ _ _ h => h) (Or.inl ⟨by rfl, ?_⟩) ?_ ?_
          rotate_left; (intro w'; go_simp; with_reducible rfl)
          rotate_left; (simp only [Act.put, List.setIfInBounds_toArray, List.set_cons_zero, List.set_cons_succ, i64_w, i32_w]; rfl)
          refine pure_ (i := 4) (N := (some 151)) (v := ?_) (a' := ?_) #[true, true, true, true, true, false, false, false, false, false, false, false, false, false, false, false, false, false, false, false] rfl rfl (any_of HT_.out (by kernel_rfl)) (fun _ _ _ h => h) (Or.inl ⟨by rfl, ?_⟩) ?_ ?_
          rotate_left; (intro w'; go_simp; with_reducible rfl)
          rotate_left; (simp only [Act.put, List.setIfInBounds_toArray, List.set_cons_zero, List.set_cons_succ, i64_w, i32_w]; rfl)
          refine pure_ (i := 5) (N := (some 152)) (v := ?_) (a' := ?_) #[true, true, true, true, true, true, false, false, false, false, false, false, false, false, false, false, false, false, false, false] rfl rfl (any_of HT_.out (by kernel_rfl)) (fun _ _ _ h => h) (Or.inl ⟨by rfl, ?_⟩) ?_ ?_
          rotate_left; (intro w'; go_simp; with_reducible rfl)
          rotate_left; (simp only [Act.put, List.setIfInBounds_toArray, List.set_cons_zero, List.set_cons_succ, i64_w, i32_w]; rfl)
          refine pure_ (i := 6) (N := (some 153)) (v := ?_) (a' := ?_) #[true, true, true, true, true, true, true, false, false, false, false, false, false, false, false, false, false, false, false, false] rfl rfl (any_of HT_.out (by kernel_rfl)) (fun _ _ _ h => h) (Or.inl ⟨by rfl, ?_⟩) ?_ ?_
          rotate_left; (intro w'; go_simp; with_reducible rfl)
          rotate_left; (simp only [Act.put, List.setIfInBounds_toArray, List.set_cons_zero, List.set_cons_succ, i64_w, i32_w]; rfl)
          refine take_ (i := 7) (N := (some 154)) (v := ?_) (a' := ?_) #[true, true, true, true, true, true, true, true, false, false, false, false, false, false, false, false, false, false, false, false] rfl rfl (take_ofW HT_.out HW_.out (by kernel_rfl)) (fun _ _ _ h => h) (Or.inl ⟨by rfl, ?_⟩) hHeld ?_ ?_
          rotate_left; (intro w' hs; have s0 := pw_cell_below hs HHQ.out.cells.1; go_simp; with_reducible rfl)
          rotate_left; (simp only [Act.put, List.setIfInBounds_toArray, List.set_cons_zero, List.set_cons_succ, i64_w, i32_w]; rfl)
          refine pure_ (i := 8) (N := (some 155)) (v := ?_) (a' := ?_) #[true, true, true, true, true, true, true, true, true, false, false, false, false, false, false, false, false, false, false, false] rfl rfl (any_of HT_.out (by kernel_rfl)) (fun _ _ _ h => h) (Or.inl ⟨by rfl, ?_⟩) ?_ ?_
          rotate_left; (intro w'; go_simp; with_reducible rfl)
          rotate_left; (simp only [Act.put, List.setIfInBounds_toArray, List.set_cons_zero, List.set_cons_succ, i64_w, i32_w]; rfl)
          refine pure_ (i := 10) (N := (some 157)) (v := ?_) (a' := ?_) #[true, true, true, true, true, true, true, true, true, false, true, false, false, false, false, false, false, false, false, false] rfl rfl (any_of HT_.out (by kernel_rfl)) (fun _ _ _ h => h) (Or.inl ⟨by rfl, ?_⟩) ?_ ?_
          rotate_left; (intro w'; go_simp; with_reducible rfl)
          rotate_left; (simp only [Act.put, List.setIfInBounds_toArray, List.set_cons_zero, List.set_cons_succ, i64_w, i32_w]; rfl)
          refine pure_ (i := 11) (N := (some 158)) (v := ?_) (a' := ?_) #[true, true, true, true, true, true, true, true, true, false, true, true, false, false, false, false, false, false, false, false] rfl rfl (any_of HT_.out (by kernel_rfl)) (fun _ _ _ h => h) (Or.inl ⟨by rfl, ?_⟩) ?_ ?_
          rotate_left; (intro w'; go_simp; with_reducible rfl)
          rotate_left; (simp only [Act.put, List.setIfInBounds_toArray, List.set_cons_zero, List.set_cons_succ, i64_w, i32_w]; rfl)
          refine pure_ (i := 12) (N := (some 159)) (v := (.int .i64 ((f : Int) + (i : Int)))) (a' := ?_) #[true, true, true, true, true, true, true, true, true, false, true, true, true, false, false, false, false, false, false, false] rfl rfl (any_of HT_.out (by kernel_rfl)) (fun _ _ _ h => h) (Or.inl ⟨by rfl, ?_⟩) ?_ ?_
          · (intro w'; have hf0 := HFA.out.1; have hf1 := HFA.out.2.1; have hf2 := HFA.out.2.2.1; have hf3 := HFA.out.2.2.2.1; have hf4 := HFA.out.2.2.2.2.1; have hf5 := HFA.out.2.2.2.2.2.1; have hf6 := HFA.out.2.2.2.2.2.2; go_simp; all_goals (first | done | rfl | (simp only [hf0, hf1, hf2, hf3, hf4, hf5, hf6]; done) | (simp [hf0, hf1, hf2, hf3, hf4, hf5, hf6]; done) | trace_state))
          rotate_left; (simp only [Act.put, List.setIfInBounds_toArray, List.set_cons_zero, List.set_cons_succ, i64_w, i32_w]; rfl)
          refine pure_ (i := 13) (N := (some 160)) (v := ?_) (a' := ?_) #[true, true, true, true, true, true, true, true, true, false, true, true, true, true, false, false, false, false, false, false] rfl rfl (any_of HT_.out (by kernel_rfl)) (fun _ _ _ h => h) (Or.inl ⟨by rfl, ?_⟩) ?_ ?_
          rotate_left; (intro w'; go_simp; with_reducible rfl)
          rotate_left; (simp only [Act.put, List.setIfInBounds_toArray, List.set_cons_zero, List.set_cons_succ, i64_w, i32_w]; rfl)
          refine pure_ (i := 14) (N := (some 161)) (v := (.int .i64 (m9 : Int))) (a' := ?_) #[true, true, true, true, true, true, true, true, true, false, true, true, true, true, true, false, false, false, false, false] rfl rfl (any_of HT_.out (by kernel_rfl)) (fun _ _ _ h => h) (Or.inl ⟨by rfl, ?_⟩) ?_ ?_
          · (intro w'; have hf0 := HFA.out.1; have hf1 := HFA.out.2.1; have hf2 := HFA.out.2.2.1; have hf3 := HFA.out.2.2.2.1; have hf4 := HFA.out.2.2.2.2.1; have hf5 := HFA.out.2.2.2.2.2.1; have hf6 := HFA.out.2.2.2.2.2.2; go_simp; all_goals (first | done | rfl | (simp only [hf0, hf1, hf2, hf3, hf4, hf5, hf6]; done) | (simp [hf0, hf1, hf2, hf3, hf4, hf5, hf6]; done) | trace_state))
          rotate_left; (simp only [Act.put, List.setIfInBounds_toArray, List.set_cons_zero, List.set_cons_succ, i64_w, i32_w]; rfl)
          refine pure_ (i := 15) (N := (some 162)) (v := (.int .u64 (m9 : Int))) (a' := ?_) #[true, true, true, true, true, true, true, true, true, false, true, true, true, true, true, true, false, false, false, false] rfl rfl (any_of HT_.out (by kernel_rfl)) (fun _ _ _ h => h) (Or.inl ⟨by rfl, ?_⟩) ?_ ?_
          · (intro w'; have hf0 := HFA.out.1; have hf1 := HFA.out.2.1; have hf2 := HFA.out.2.2.1; have hf3 := HFA.out.2.2.2.1; have hf4 := HFA.out.2.2.2.2.1; have hf5 := HFA.out.2.2.2.2.2.1; have hf6 := HFA.out.2.2.2.2.2.2; go_simp; all_goals (first | done | rfl | (simp only [hf0, hf1, hf2, hf3, hf4, hf5, hf6]; done) | (simp [hf0, hf1, hf2, hf3, hf4, hf5, hf6]; done) | trace_state))
          rotate_left; (simp only [Act.put, List.setIfInBounds_toArray, List.set_cons_zero, List.set_cons_succ, i64_w, i32_w]; rfl)
          refine pure_ (i := 16) (N := (some 163)) (v := (.int .u64 ((m9 : Int) * 16))) (a' := ?_) #[true, true, true, true, true, true, true, true, true, false, true, true, true, true, true, true, true, false, false, false] rfl rfl (any_of HT_.out (by kernel_rfl)) (fun _ _ _ h => h) (Or.inl ⟨by rfl, ?_⟩) ?_ ?_
          · (intro w'; have hf0 := HFA.out.1; have hf1 := HFA.out.2.1; have hf2 := HFA.out.2.2.1; have hf3 := HFA.out.2.2.2.1; have hf4 := HFA.out.2.2.2.2.1; have hf5 := HFA.out.2.2.2.2.2.1; have hf6 := HFA.out.2.2.2.2.2.2; go_simp; all_goals (first | done | rfl | (simp only [hf0, hf1, hf2, hf3, hf4, hf5, hf6]; done) | (simp [hf0, hf1, hf2, hf3, hf4, hf5, hf6]; done) | trace_state))
          rotate_left; (simp only [Act.put, List.setIfInBounds_toArray, List.set_cons_zero, List.set_cons_succ, i64_w, i32_w]; rfl)
          refine pure_ (i := 17) (N := (some 164)) (v := (.int .u64 (16 * (m9 : Int) + 3))) (a' := ?_) #[true, true, true, true, true, true, true, true, true, false, true, true, true, true, true, true, true, true, false, false] rfl rfl (any_of HT_.out (by kernel_rfl)) (fun _ _ _ h => h) (Or.inl ⟨by rfl, ?_⟩) ?_ ?_
          · (intro w'; have hf0 := HFA.out.1; have hf1 := HFA.out.2.1; have hf2 := HFA.out.2.2.1; have hf3 := HFA.out.2.2.2.1; have hf4 := HFA.out.2.2.2.2.1; have hf5 := HFA.out.2.2.2.2.2.1; have hf6 := HFA.out.2.2.2.2.2.2; go_simp; all_goals (first | done | rfl | (simp only [hf0, hf1, hf2, hf3, hf4, hf5, hf6]; done) | (simp [hf0, hf1, hf2, hf3, hf4, hf5, hf6]; done) | trace_state))
          rotate_left; (simp only [Act.put, List.setIfInBounds_toArray, List.set_cons_zero, List.set_cons_succ, i64_w, i32_w]; rfl)
          refine one_ (i := 9) (N := (some 156)) #[true, true, true, true, true, true, true, true, true, true, true, true, true, true, true, true, true, true, false, false] rfl rfl (one_of HT_.out (by kernel_rfl)) (by decide) (fun K hK => ?_)
          refine goes_ Try.func55 (by kernel_rfl) rfl #[.pointer (some ⟨g2, 0, none⟩), .int .i64 (2 * (t : Int))] (by rfl) rfl rfl (by (try simp only [List.map_toArray, List.map_cons, List.map_nil]); first | done | rfl) ?_
          refine (HWD.out _ HBB.out).mono ?_
          rintro e wn ⟨rfl, hb⟩
          refine ⟨_, rfl, ?_⟩
          have n0_ := Aside0.mk (below_step HBB.out hb)
          clear HBB hHeld hb
          have HBB := n0_
          clear n0_
          refine hK.out _ _ HBB.out (fun hHeld => ?_)
          clear hK K
          refine norm_ (a' := ?_) ?_ ?_
          rotate_left
          · show Act.put _ (some 156) _ = _
            simp only [Act.put, List.setIfInBounds_toArray, List.set_cons_zero, List.set_cons_succ, i64_w, i32_w]
            rfl
          refine pure_ (i := 18) (N := (some 165)) (v := (.bool false)) (a' := ?_) #[true, true, true, true, true, true, true, true, true, true, true, true, true, true, true, true, true, true, true, false] rfl rfl (any_of HT_.out (by kernel_rfl)) (fun _ _ _ h => h) (Or.inl ⟨by rfl, ?_⟩) ?_ ?_
          · (intro w'; have hf0 := HFA.out.1; have hf1 := HFA.out.2.1; have hf2 := HFA.out.2.2.1; have hf3 := HFA.out.2.2.2.1; have hf4 := HFA.out.2.2.2.2.1; have hf5 := HFA.out.2.2.2.2.2.1; have hf6 := HFA.out.2.2.2.2.2.2; go_simp; all_goals (first | done | rfl | (simp only [hf0, hf1, hf2, hf3, hf4, hf5, hf6]; done) | (simp [hf0, hf1, hf2, hf3, hf4, hf5, hf6]; done) | trace_state))
          rotate_left; (simp only [Act.put, List.setIfInBounds_toArray, List.set_cons_zero, List.set_cons_succ, i64_w, i32_w]; rfl)
          refine pure_ (i := 19) (N := (some 166)) (v := ?_) (a' := ?_) #[true, true, true, true, true, true, true, true, true, true, true, true, true, true, true, true, true, true, true, true] rfl rfl (any_of HT_.out (by kernel_rfl)) (fun _ _ _ h => h) (Or.inl ⟨by rfl, ?_⟩) ?_ ?_
          rotate_left; (intro w'; go_simp; with_reducible rfl)
          rotate_left; (simp only [Act.put, List.setIfInBounds_toArray, List.set_cons_zero, List.set_cons_succ, i64_w, i32_w]; rfl)
          refine done_ (done_of HT_.out (by kernel_rfl)) ?_
          -- region 22 done
          have HBN := Aside0.mk (below_step HBQ.out HBB.out)
          have HWN := Aside0.mk HBB.out
          clear HBB hHeld HT_ HW_ HHQ HWD HFA hshr c0 c1 c2 f1
          obtain ⟨c0, c1, c2, f1⟩ := (HH8.out.below HBN.out).cells
          go_wp2_with fail
          refine (HWE.out _ HWN.out).mono ?_
          rintro e_ wz ⟨rfl, hbz⟩
          have HBZ := Aside0.mk (below_step HBN.out hbz)
          have hnx : (t + 1) % (kk + 1) = (i + 1) % (kk + 1) := by rw [← HT.out, Nat.mod_add_mod]
          clear hbz c0 c1 c2 f1 HWN HBN HWE
          rw [hnx]
          go_wp2_with fail
          go_roundg (2 * (kk + 1) - (i + 1))
          case measure => omega
          case rel => exact ⟨i + 1, rfl, by omega, by go_num, rfl, HBZ⟩
        · obtain rfl : i = 2 * (kk + 1) := by omega
          have b3 : ¬ (((2 * (kk + 1) : Nat) : Int) < 2 * (1 + (kk : Int))) := by omega
          have b4 : ¬ (2 * ((kk : Int) + 1) < 2 * (1 + (kk : Int))) := by omega
          have HHZ := Aside0.mk (HH8.out.below HBQ.out)
          have hcz := pw_cell_below HBQ.out HC8.out
          have HBX := Aside0.mk (below_step HB8.out HBQ.out)
          have HG := Aside0.mk (get_no wr w.heap.size h g2 gw2 m (.slice none 0 0) to2 (2 * (kk + 1)) [] 1 (fun x => ∃ j, j < kk + 1 ∧ x = px (2 * j)) HHZ.out (fin_endless (show 0 < kk + 1 by omega) (by omega) hfk HFI.out) ⟨0, by omega, by unfold px; omega⟩)
          clear hcell c0 c1 c2 f1 HHZ
          go_wp2_with fail
          refine HG.out.mono ?_
          rintro e_ w10 ⟨rfl, hb10⟩
          have HB10 := Aside0.mk (below_step HBX.out hb10)
          clear hb10 HG
          obtain ⟨gq, hgq⟩ : ∃ gq, w10.heap.size = gq := ⟨_, rfl⟩
          obtain ⟨W8, hW8⟩ : ∃ W8, w10.alloc (.cells #[.int .i64 0, .bool false, .slice none 0 0, .string ⟨#[]⟩, .int .i64 0, .slice none 0 0] 43) = W8 := ⟨_, rfl⟩
          have hn8 : W8.heap[gq]? = some (.cells #[.int .i64 0, .bool false, .slice none 0 0, .string ⟨#[]⟩, .int .i64 0, .slice none 0 0] 43 (0, 0)) := by rw [← hW8, ← hgq]; exact heap_alloc_new _ _
          have hb8 : Below w10.heap.size w10 W8 := by rw [← hW8]; exact below_alloc (Below.refl _ _) _
          obtain ⟨p0, p1, p2, p3, p4, p5⟩ := six_cells hn8
          obtain ⟨z0, z1, z2, z3, z4, z5⟩ := six_live hn8
          obtain ⟨W9, hW9⟩ : ∃ W9, (((((W8.setCell ⟨gq, 0, none⟩ (.int .i64 0)).setCell ⟨gq, 1, none⟩ (.bool false)).setCell ⟨gq, 2, none⟩ (.slice none 0 0)).setCell ⟨gq, 3, none⟩ (.string ⟨#[]⟩)).setCell ⟨gq, 4, none⟩ (.int .i64 0)).setCell ⟨gq, 5, none⟩ (.slice none 0 0) = W9 := ⟨_, rfl⟩
          have hb9 : Below w10.heap.size w10 W9 := by rw [← hW9]; exact below_six hb8 (by rw [hgq]; exact Nat.le_refl _)
          have HB9 := Aside0.mk (below_step HB10.out hb9)
          have hfI := field_I
          clear hn8 hb8 hb9
          unfold noV tv
          go_wp2_with fail
          refine (relictlaw00_I1.calls 100 1 _ _ _ _ _ _ _ i1).mono ?_
          rintro e_ w11 ⟨v2, v5, rfl, hv2, hv5, hb11⟩
          have HV2 := Aside0.mk hv2
          have HB11 := Aside0.mk hb11
          clear hv2 hv5 hb11
          go_wp2_with fail
          refine (relictref03_Small.calls 100 false _ _ [1] true _ _ HB11.out HV2.out sm).mono ?_
          rintro e_ w12 ⟨rfl, hb12, _⟩
          have HB12 := Aside0.mk (below_step HB9.out hb12)
          clear hb12
          go_wp2_with fail
          refine (Go.Proofs.YtlifdpfhepamfaaCa.awake_calls _).mono ?_
          rintro e_ w13 ⟨rfl, hb13⟩
          have HB13 := Aside0.mk (below_step HB12.out hb13)
          clear hb13
          go_wp2_with fail
          go_ret
          exact ⟨rfl, HB13.out⟩
end Go.Proofs.YtlifdpfhepamfaaCw
