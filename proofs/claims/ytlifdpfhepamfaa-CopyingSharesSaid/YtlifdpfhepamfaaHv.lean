/- Lists of numbers are put, where there is room; relictlaw12's awake. -/
import Derived.Test.YtlifdpfhepamfaaHu
import Derived.Deep.RegionHeld3
namespace Go.Proofs.YtlifdpfhepamfaaHv
open Go.RowKit Go.Maps Go.Proofs.YtlifdpfhepamfaaW.PrintWords Go.Proofs.YtlifdpfhepamfaaW.PrintLast Go.Proofs.YtlifdpfhepamfaaW.PrintMore Go.Proofs.YtlifdpfhepamfaaMem Go.Proofs.YtlifdpfhepamfaaLeaf Go.Proofs.YtlifdpfhepamfaaBits Go.Proofs.Ytlifdpfhepamfaa.PHe Go.Proofs.YtlifdpfhepamfaaRow Go.Proofs.YtlifdpfhepamfaaAr Go.Proofs.YtlifdpfhepamfaaHp Go.Proofs.YtlifdpfhepamfaaHn Go.Proofs.YtlifdpfhepamfaaHo Go.Proofs.YtlifdpfhepamfaaHt Go.Proofs.YtlifdpfhepamfaaHw Go.Proofs.YtlifdpfhepamfaaHu Go.Proofs
set_option linter.unusedVariables false
set_option linter.unusedSimpArgs false
def T1 : Bool × List (List Nat × List Nat) := (true, [([], []), ([0], [0]), ([1], [1]), ([2, 1], [2]), ([3], [3]), ([4, 3, 3], [3, 4]), ([3], [3]), ([6, 3], [3, 6]), ([7, 3], [3, 7]), ([8, 3], [3, 8]), ([9, 5, 3], [3, 9]), ([3], [3]), ([11, 3], [3, 11]), ([12, 3], [3, 12]), ([13, 3], [3, 13]), ([14, 10, 3], [3, 14]), ([10, 15, 3], [3, 10, 15]), ([5, 16, 3], [3, 5, 16]), ([3, 17], [3, 17])])
def B1 : List Nat := [0, 1, 3, 7, 15, 31, 15, 79, 207, 463, 1023, 15, 2063, 6159, 14351, 32767, 65535, 131071, 262143]
theorem tab1 : rtab .any (opsOf Try.f19 1) = T1 := by kernel_rfl
theorem bits1 : waitsOk T1.2 B1 = true := by kernel_rfl
set_option maxHeartbeats 16000000 in
set_option maxRecDepth 100000 in
theorem put_calls (w : World) (B h g gw m : Nat) (u : Value) (l : List Int) (n : Nat) (ns : List ByteArray) (ok : Nat → Prop) (xs : List Int) (hI : I64 xs) (hlen : xs.length ≤ 1000) (A2 : Option Addr) (c2 : Nat) (A5 : Option Addr) (c5 : Nat)
    (H : Hp B w h g gw m u l n ns) (hT : TF w ok (LI xs) A2 c2 A5 c5) (hdis : ∀ k, ok k → ¬ SH h g gw m u k) (hroom : wL xs ≤ n - l.length) :
    Calls Try.prog 19 #[.pointer (some ⟨h, 0, none⟩), .agg (cellsT (LI xs) A2 c2 A5 c5)] w (PutPost B w h g gw m u (putLw xs l) n ns (putWw xs l)) := by
  have hu := Try.underlying43
  obtain ⟨q, hq⟩ : ∃ q, w.heap.size = q := ⟨_, rfl⟩
  obtain ⟨W, hW⟩ : ∃ W, w.alloc (.cells (cellsT (LI xs) A2 c2 A5 c5) 43) = W := ⟨_, rfl⟩
  have h0 : W.heap[q]? = some (.cells (cellsT (LI xs) A2 c2 A5 c5) 43 (0, 0)) := by rw [← hW, ← hq]; exact heap_alloc_new _ _
  have hb : Below w.heap.size w W := by rw [← hW]; exact below_alloc (Below.refl _ _) _
  have hTW := hT.below hb
  have hHW := H.below hb
  have HH := Aside0.mk hHW
  have HB := Aside0.mk hb
  have H0 := Aside0.mk h0
  have HMAY := Aside0.mk (fun (V : World) (hv : Below W.heap.size W V) => may_list V ok xs A2 c2 A5 c5 (hTW.below hv))
  have HWDS := Aside0.mk (fun (V : World) (hv : Below W.heap.size W V) => Words_list xs hI hlen V ok A2 c2 A5 c5 (hTW.below hv))
  have HPUT := Aside0.mk (fun (V : World) (hv : Below W.heap.size W V) => put_list xs hI V B h g gw m u l n ns ok A2 c2 A5 c5 (hHW.below hv) (hTW.below hv) hdis hroom)
  have HSIZ : Aside0 (∀ V, Below W.heap.size W V → Calls Try.prog 38 #[.pointer (some ⟨g, 0, none⟩)] V fun e w' => e = .returned (.int .i64 (n : Nat)) ∧ Below V.heap.size V w') := ⟨fun V hv => (size_calls V g gw n l (hHW.below hv).ar).mono (by rintro e w' ⟨he, nd, rfl⟩; exact ⟨he, pw_below_drewN (Below.refl _ _) _⟩)⟩
  have HUSE : Aside0 (∀ V, Below W.heap.size W V → Calls Try.prog 37 #[.pointer (some ⟨g, 0, none⟩)] V fun e w' => e = .returned (.int .i64 (l.length : Nat)) ∧ Below V.heap.size V w') := ⟨fun V hv => (used_calls V g gw n l (hHW.below hv).ar).mono (by rintro e w' ⟨he, nd, rfl⟩; exact ⟨he, pw_below_drewN (Below.refl _ _) _⟩)⟩
  have hln : l.length ≤ n := H.ar.2.2.1
  have hn : n ≤ 32768 := H.ar.2.2.2.1
  have hwl := wL_le xs
  have hgt : ((wL xs : Nat) : Int) > (n : Int) - (l.length : Int) ↔ False := ⟨fun h => by omega, fun h => h.elim⟩
  obtain ⟨wl, hwle⟩ : ∃ wl, wL xs = wl := ⟨_, rfl⟩
  rw [hwle] at HWDS hgt hwl
  have HGT := Aside0.mk (And.intro hgt (And.intro hln (And.intro hn hwl)))
  generalize putLw xs l = L3 at HPUT ⊢
  generalize putWw xs l = X3 at HPUT ⊢
  obtain ⟨x, hx⟩ : ∃ x, LI xs = x := ⟨_, rfl⟩
  rw [hx] at hW H0 HMAY HWDS HPUT ⊢
  unfold cellsT at hW H0 HMAY HWDS HPUT ⊢
  obtain ⟨b0, b1, b2, b3, b4, b5⟩ := six_cells H0.out
  clear h0 hb hTW hHW hT hdis hroom H hI hlen hln hn hwl hgt hwle hx
  go_enter Try.func19, Try.ntmps19
  go_wp2_with fail
  have HBB := Aside0.mk (below_drew (Below.refl W.heap.size W))
  refine start_ (n := 19) (S := fun w' => Below W.heap.size W w') (ds := []) #[false, false, false, false, false, false, false, false, false, false, false, false, false, false, false, false, false, false, false] (by kernel_rfl) rfl rfl HBB.out (fun hHeld => ?_); refine with_tabW tab1 bits1 (fun HT_ HW_ => ?_)
  generalize W.drew = wd at HBB hHeld ⊢
  refine take_ (i := 0) (N := (some 6)) (v := ?_) (a' := ?_) #[true, false, false, false, false, false, false, false, false, false, false, false, false, false, false, false, false, false, false] rfl rfl (take_ofW HT_.out HW_.out (by kernel_rfl)) (fun _ _ _ h => h) (Or.inl ⟨by rfl, ?_⟩) hHeld ?_ ?_
  rotate_left; (intro w' hs; obtain ⟨s0, s1, s2, s3, s4, s5⟩ := six_cells ((hs.block _ (blk_lt H0.out)).trans H0.out); go_simp; with_reducible rfl)
  rotate_left; (simp only [Act.put, List.setIfInBounds_toArray, List.set_cons_zero, List.set_cons_succ, i64_w, i32_w]; rfl)
  refine one_ (i := 1) (N := (some 7)) #[true, true, false, false, false, false, false, false, false, false, false, false, false, false, false, false, false, false, false] rfl rfl (one_of HT_.out (by kernel_rfl)) (by decide) (fun K hK => ?_)
  refine goes_ Try.func65 (by kernel_rfl) rfl #[.agg #[.int .i64 x.f0, .bool x.f1.f0, .slice A2 x.f1.f1.length c2, .string x.f2, .int .i64 x.f3, .slice A5 x.f4.length c5]] (by rfl) rfl rfl (by (try simp only [List.map_toArray, List.map_cons, List.map_nil]); first | done | rfl) ?_
  refine (HMAY.out _ HBB.out).mono ?_
  rintro e wn ⟨rfl, hb⟩
  refine ⟨_, rfl, ?_⟩
  have n0_ := Aside0.mk (below_step HBB.out hb)
  clear HBB hHeld hb
  have HBB := n0_
  clear n0_
  refine hK.out _ _ HBB.out (fun hHeld => ?_)
  clear hK K
  refine norm_ (a' := ?_) ?_ ?_
  rotate_left
  · show Act.put _ (some 7) _ = _
    simp only [Act.put, List.setIfInBounds_toArray, List.set_cons_zero, List.set_cons_succ, i64_w, i32_w]
    rfl
  refine pure_ (i := 2) (N := (some 8)) (v := ?_) (a' := ?_) #[true, true, true, false, false, false, false, false, false, false, false, false, false, false, false, false, false, false, false] rfl rfl (any_of HT_.out (by kernel_rfl)) (fun _ _ _ h => h) (Or.inl ⟨by rfl, ?_⟩) ?_ ?_
  rotate_left; (intro w'; go_simp; with_reducible rfl)
  rotate_left; (simp only [Act.put, List.setIfInBounds_toArray, List.set_cons_zero, List.set_cons_succ, i64_w, i32_w]; rfl)
  refine pure_ (i := 3) (N := (some 9)) (v := ?_) (a' := ?_) #[true, true, true, true, false, false, false, false, false, false, false, false, false, false, false, false, false, false, false] rfl rfl (any_of HT_.out (by kernel_rfl)) (fun _ _ _ h => h) (Or.inl ⟨by rfl, ?_⟩) ?_ ?_
  rotate_left; (intro w'; go_simp; with_reducible rfl)
  rotate_left; (simp only [Act.put, List.setIfInBounds_toArray, List.set_cons_zero, List.set_cons_succ, i64_w, i32_w]; rfl)
  refine take_ (i := 4) (N := (some 10)) (v := ?_) (a' := ?_) #[true, true, true, true, true, false, false, false, false, false, false, false, false, false, false, false, false, false, false] rfl rfl (take_ofW HT_.out HW_.out (by kernel_rfl)) (fun _ _ _ h => h) (Or.inl ⟨by rfl, ?_⟩) hHeld ?_ ?_
  rotate_left; (intro w' hs; obtain ⟨s0, s1, s2, s3, s4, s5⟩ := six_cells ((hs.block _ (blk_lt H0.out)).trans H0.out); go_simp; with_reducible rfl)
  rotate_left; (simp only [Act.put, List.setIfInBounds_toArray, List.set_cons_zero, List.set_cons_succ, i64_w, i32_w]; rfl)
  refine pure_ (i := 6) (N := (some 12)) (v := ?_) (a' := ?_) #[true, true, true, true, true, false, true, false, false, false, false, false, false, false, false, false, false, false, false] rfl rfl (any_of HT_.out (by kernel_rfl)) (fun _ _ _ h => h) (Or.inl ⟨by rfl, ?_⟩) ?_ ?_
  rotate_left; (intro w'; go_simp; with_reducible rfl)
  rotate_left; (simp only [Act.put, List.setIfInBounds_toArray, List.set_cons_zero, List.set_cons_succ, i64_w, i32_w]; rfl)
  refine pure_ (i := 7) (N := (some 13)) (v := ?_) (a' := ?_) #[true, true, true, true, true, false, true, true, false, false, false, false, false, false, false, false, false, false, false] rfl rfl (any_of HT_.out (by kernel_rfl)) (fun _ _ _ h => h) (Or.inl ⟨by rfl, ?_⟩) ?_ ?_
  rotate_left; (intro w'; go_simp; with_reducible rfl)
  rotate_left; (simp only [Act.put, List.setIfInBounds_toArray, List.set_cons_zero, List.set_cons_succ, i64_w, i32_w]; rfl)
  refine pure_ (i := 8) (N := (some 14)) (v := ?_) (a' := ?_) #[true, true, true, true, true, false, true, true, true, false, false, false, false, false, false, false, false, false, false] rfl rfl (any_of HT_.out (by kernel_rfl)) (fun _ _ _ h => h) (Or.inl ⟨by rfl, ?_⟩) ?_ ?_
  rotate_left; (intro w'; go_simp; with_reducible rfl)
  rotate_left; (simp only [Act.put, List.setIfInBounds_toArray, List.set_cons_zero, List.set_cons_succ, i64_w, i32_w]; rfl)
  refine take_ (i := 9) (N := (some 15)) (v := ?_) (a' := ?_) #[true, true, true, true, true, false, true, true, true, true, false, false, false, false, false, false, false, false, false] rfl rfl (take_ofW HT_.out HW_.out (by kernel_rfl)) (fun _ _ _ h => h) (Or.inl ⟨by rfl, ?_⟩) hHeld ?_ ?_
  rotate_left; (intro w' hs; have s0 := pw_cell_below hs HH.out.cells.1; go_simp; with_reducible rfl)
  rotate_left; (simp only [Act.put, List.setIfInBounds_toArray, List.set_cons_zero, List.set_cons_succ, i64_w, i32_w]; rfl)
  refine pure_ (i := 11) (N := (some 17)) (v := ?_) (a' := ?_) #[true, true, true, true, true, false, true, true, true, true, false, true, false, false, false, false, false, false, false] rfl rfl (any_of HT_.out (by kernel_rfl)) (fun _ _ _ h => h) (Or.inl ⟨by rfl, ?_⟩) ?_ ?_
  rotate_left; (intro w'; go_simp; with_reducible rfl)
  rotate_left; (simp only [Act.put, List.setIfInBounds_toArray, List.set_cons_zero, List.set_cons_succ, i64_w, i32_w]; rfl)
  refine pure_ (i := 12) (N := (some 18)) (v := ?_) (a' := ?_) #[true, true, true, true, true, false, true, true, true, true, false, true, true, false, false, false, false, false, false] rfl rfl (any_of HT_.out (by kernel_rfl)) (fun _ _ _ h => h) (Or.inl ⟨by rfl, ?_⟩) ?_ ?_
  rotate_left; (intro w'; go_simp; with_reducible rfl)
  rotate_left; (simp only [Act.put, List.setIfInBounds_toArray, List.set_cons_zero, List.set_cons_succ, i64_w, i32_w]; rfl)
  refine pure_ (i := 13) (N := (some 19)) (v := ?_) (a' := ?_) #[true, true, true, true, true, false, true, true, true, true, false, true, true, true, false, false, false, false, false] rfl rfl (any_of HT_.out (by kernel_rfl)) (fun _ _ _ h => h) (Or.inl ⟨by rfl, ?_⟩) ?_ ?_
  rotate_left; (intro w'; go_simp; with_reducible rfl)
  rotate_left; (simp only [Act.put, List.setIfInBounds_toArray, List.set_cons_zero, List.set_cons_succ, i64_w, i32_w]; rfl)
  refine take_ (i := 14) (N := (some 20)) (v := ?_) (a' := ?_) #[true, true, true, true, true, false, true, true, true, true, false, true, true, true, true, false, false, false, false] rfl rfl (take_ofW HT_.out HW_.out (by kernel_rfl)) (fun _ _ _ h => h) (Or.inl ⟨by rfl, ?_⟩) hHeld ?_ ?_
  rotate_left; (intro w' hs; have s0 := pw_cell_below hs HH.out.cells.1; go_simp; with_reducible rfl)
  rotate_left; (simp only [Act.put, List.setIfInBounds_toArray, List.set_cons_zero, List.set_cons_succ, i64_w, i32_w]; rfl)
  refine one_ (i := 5) (N := (some 11)) #[true, true, true, true, true, true, true, true, true, true, false, true, true, true, true, false, false, false, false] rfl rfl (one_of HT_.out (by kernel_rfl)) (by decide) (fun K hK => ?_)
  refine goes_ Try.func66 (by kernel_rfl) rfl #[.agg #[.int .i64 x.f0, .bool x.f1.f0, .slice A2 x.f1.f1.length c2, .string x.f2, .int .i64 x.f3, .slice A5 x.f4.length c5]] (by rfl) rfl rfl (by (try simp only [List.map_toArray, List.map_cons, List.map_nil]); first | done | rfl) ?_
  refine (HWDS.out _ HBB.out).mono ?_
  rintro e wo ⟨rfl, hb⟩
  refine ⟨_, rfl, ?_⟩
  have n0_ := Aside0.mk (below_step HBB.out hb)
  clear HBB hHeld hb
  have HBB := n0_
  clear n0_
  refine hK.out _ _ HBB.out (fun hHeld => ?_)
  clear hK K
  refine norm_ (a' := ?_) ?_ ?_
  rotate_left
  · show Act.put _ (some 11) _ = _
    simp only [Act.put, List.setIfInBounds_toArray, List.set_cons_zero, List.set_cons_succ, i64_w, i32_w]
    rfl
  refine one_ (i := 10) (N := (some 16)) #[true, true, true, true, true, true, true, true, true, true, true, true, true, true, true, false, false, false, false] rfl rfl (one_of HT_.out (by kernel_rfl)) (by decide) (fun K hK => ?_)
  refine goes_ Try.func38 (by kernel_rfl) rfl #[.pointer (some ⟨g, 0, none⟩)] (by rfl) rfl rfl (by (try simp only [List.map_toArray, List.map_cons, List.map_nil]); first | done | rfl) ?_
  refine (HSIZ.out _ HBB.out).mono ?_
  rintro e wp ⟨rfl, hb⟩
  refine ⟨_, rfl, ?_⟩
  have n0_ := Aside0.mk (below_step HBB.out hb)
  clear HBB hHeld hb
  have HBB := n0_
  clear n0_
  refine hK.out _ _ HBB.out (fun hHeld => ?_)
  clear hK K
  refine norm_ (a' := ?_) ?_ ?_
  rotate_left
  · show Act.put _ (some 16) _ = _
    simp only [Act.put, List.setIfInBounds_toArray, List.set_cons_zero, List.set_cons_succ, i64_w, i32_w]
    rfl
  refine one_ (i := 15) (N := (some 21)) #[true, true, true, true, true, true, true, true, true, true, true, true, true, true, true, true, false, false, false] rfl rfl (one_of HT_.out (by kernel_rfl)) (by decide) (fun K hK => ?_)
  refine goes_ Try.func37 (by kernel_rfl) rfl #[.pointer (some ⟨g, 0, none⟩)] (by rfl) rfl rfl (by (try simp only [List.map_toArray, List.map_cons, List.map_nil]); first | done | rfl) ?_
  refine (HUSE.out _ HBB.out).mono ?_
  rintro e wq ⟨rfl, hb⟩
  refine ⟨_, rfl, ?_⟩
  have n0_ := Aside0.mk (below_step HBB.out hb)
  clear HBB hHeld hb
  have HBB := n0_
  clear n0_
  refine hK.out _ _ HBB.out (fun hHeld => ?_)
  clear hK K
  refine norm_ (a' := ?_) ?_ ?_
  rotate_left
  · show Act.put _ (some 21) _ = _
    simp only [Act.put, List.setIfInBounds_toArray, List.set_cons_zero, List.set_cons_succ, i64_w, i32_w]
    rfl
  refine pure_ (i := 16) (N := (some 22)) (v := (.int .i64 ((n : Int) - (l.length : Int)))) (a' := ?_) #[true, true, true, true, true, true, true, true, true, true, true, true, true, true, true, true, true, false, false] rfl rfl (any_of HT_.out (by kernel_rfl)) (fun _ _ _ h => h) (Or.inl ⟨by rfl, ?_⟩) ?_ ?_
  · (intro w'; have hgt := HGT.out; go_simp; all_goals (simp only [i64_w]; congr 3; unfold wrap64; omega))
  rotate_left; (simp only [Act.put, List.setIfInBounds_toArray, List.set_cons_zero, List.set_cons_succ, i64_w, i32_w]; rfl)
  refine pure_ (i := 17) (N := (some 23)) (v := (.bool false)) (a' := ?_) #[true, true, true, true, true, true, true, true, true, true, true, true, true, true, true, true, true, true, false] rfl rfl (any_of HT_.out (by kernel_rfl)) (fun _ _ _ h => h) (Or.inl ⟨by rfl, ?_⟩) ?_ ?_
  · (intro w'; have hgt := HGT.out; go_simp; all_goals (first | done | rfl | omega | simp [hgt.1] | trace_state))
  rotate_left; (simp only [Act.put, List.setIfInBounds_toArray, List.set_cons_zero, List.set_cons_succ, i64_w, i32_w]; rfl)
  refine pure_ (i := 18) (N := (some 24)) (v := ?_) (a' := ?_) #[true, true, true, true, true, true, true, true, true, true, true, true, true, true, true, true, true, true, true] rfl rfl (any_of HT_.out (by kernel_rfl)) (fun _ _ _ h => h) (Or.inl ⟨by rfl, ?_⟩) ?_ ?_
  rotate_left; (intro w'; go_simp; with_reducible rfl)
  rotate_left; (simp only [Act.put, List.setIfInBounds_toArray, List.set_cons_zero, List.set_cons_succ, i64_w, i32_w]; rfl)
  refine done_ (done_of HT_.out (by kernel_rfl)) ?_
  clear HT_ HW_
  obtain ⟨d0, d1, d2, d3, d4, d5⟩ := six_cells ((HBB.out.block _ (blk_lt H0.out)).trans H0.out)
  go_wp2_with fail
  refine (HPUT.out _ HBB.out).mono ?_
  rintro e w2 ⟨rfl, hh, hm⟩
  have HF := Aside0.mk (And.intro hh ((Mods.of_below _ (below_step HB.out HBB.out)).trans hm))
  clear hh hm
  go_wp2_with fail
  go_ret2
  exact ⟨rfl, HF.out⟩
theorem proper1 : relictlaw00_Proper.f 10 [1] = some ((LI [1]).f0, (LI [1]).f1.f0, (LI [1]).f1.f1, (LI [1]).f2, (LI [1]).f3, (LI [1]).f4) := by kernel_rfl
theorem put1 : putLw [1] [] = [19, 11] ∧ putWw [1] [] = 1 ∧ wL [1] = 2 := ⟨by kernel_rfl, by kernel_rfl, by kernel_rfl⟩
set_option maxHeartbeats 8000000 in
set_option maxRecDepth 100000 in
theorem awake_calls (w : World) : Calls Try.prog 16 #[] w fun e w' => e = .returned (.bool true) ∧ Below w.heap.size w w' := by
  have hu := Try.underlying43
  have HNEW := Aside0.mk (new_calls 9 w w.heap.size (Nat.le_refl _))
  have hp1 := proper1
  obtain ⟨x, hx⟩ : ∃ x, LI [1] = x := ⟨_, rfl⟩
  rw [hx] at hp1
  have HP1 := Aside0.mk hp1
  have HX := Aside0.mk hx
  clear hp1 hx
  go_enter Try.func16, Try.ntmps16
  go_wp2_with fail
  refine HNEW.out.mono ?_
  rintro e w1 ⟨h, g, gw, m, rfl, hh, hb, hlo⟩
  have HH := Aside0.mk hh
  have HB := Aside0.mk hb
  have HLO := Aside0.mk hlo
  obtain ⟨c0, c1, c2, f1⟩ := hh.cells
  obtain ⟨W2, hW2⟩ : ∃ W2, w1.alloc (.cells #[.int .i64 1] 3) = W2 := ⟨_, rfl⟩
  have hb2 : Below w1.heap.size w1 W2 := by rw [← hW2]; exact below_alloc (Below.refl _ _) _
  have hn2 : W2.heap[w1.heap.size]? = some (.cells (nums .i64 [1]).toArray 3 (0, 0)) := by rw [← hW2]; exact heap_alloc_new _ _
  have HB2 := Aside0.mk hb2
  have HPR := Aside0.mk (relictlaw00_Proper.calls 10 (some ⟨w1.heap.size, 0, none⟩) 1 [1] x.f0 x.f1.f0 x.f1.f1 x.f2 x.f3 x.f4 W2 (Kd.C_of_reads (enc := Value.int .i64) (d := (0 : Int)) (h1 := fun _ => rfl) (reads_blk hn2 1 (by simp) (by omega))) (Nat.le_refl _) HP1.out)
  clear hh hb hlo hb2 hn2 HNEW
  go_wp2_with fail
  refine HPR.out.mono ?_
  rintro e w3 ⟨v2, v5, rfl, q2, q5, hb⟩
  obtain ⟨A2, a2, rfl⟩ := Kd.V_slice q2
  obtain ⟨A5, a5, rfl⟩ := Kd.V_slice q5
  have hT : TF w3 (fun k => W2.heap.size ≤ k) x A2 a2 A5 a5 := ⟨Kd.V_F q2, (Kd.V_at q2).2.1, Kd.V_F q5, (Kd.V_at q5).2.1⟩
  have hb3 := below_step HB2.out hb
  rw [← HX.out] at hT
  have hput := put_calls w3 w.heap.size h g gw m (.slice none 0 0) [] (sizeA 9) [] (fun k => W2.heap.size ≤ k) [1] (by intro y hy; simp at hy; omega) (by simp) A2 a2 A5 a5 (HH.out.below hb3) hT
    (fun k hk hs => by have h1 := (HH.out.foot k hs).2; have h2 := HB2.out.size; omega) (by rw [put1.2.2]; decide)
  rw [HX.out, put1.1, put1.2.1] at hput
  unfold cellsT at hput
  have HPUT := Aside0.mk hput
  have HB3 := Aside0.mk hb3
  clear q2 q5 hb hT hb3 hput HPR hW2 c0 c1 c2 f1
  go_wp2_with fail
  refine HPUT.out.mono ?_
  rintro e w4 ⟨rfl, hh, hm⟩
  have HH4 := Aside0.mk hh
  have HB4 := Aside0.mk (show Below w.heap.size w w4 from ((below_step HB.out HB3.out).trans (hm.below (by have := HB.out.size; have := HB3.out.size; omega) (fun k hk => HLO.out k hk))))
  obtain ⟨c0, c1, c2, f1⟩ := hh.cells
  have HU := Aside0.mk (used_calls w4 g gw (sizeA 9) [19, 11] hh.ar)
  clear hh hm HPUT
  go_wp2_with fail
  refine HU.out.mono ?_
  rintro e w5 ⟨rfl, nd, rfl⟩
  have HW0 := Aside0.mk (word_calls (w4.drewN nd) g gw (sizeA 9) [19, 11] 0 (HH4.out.ar.drewN nd))
  go_wp2_with fail
  refine HW0.out.mono ?_
  rintro e w6 ⟨rfl, nd2, rfl⟩
  have e0 : wordA [19, 11] 0 = 19 := rfl
  have e1 : wordA [19, 11] 1 = 11 := rfl
  rw [e0]
  have HW1 := Aside0.mk (fun (nd3 : Nat) => word_calls (w4.drewN nd3) g gw (sizeA 9) [19, 11] 1 (HH4.out.ar.drewN nd3))
  go_wp2_with fail

  refine (HW1.out _).mono ?_
  rintro e w7 ⟨rfl, nd4, rfl⟩
  rw [e1]
  go_wp2_with fail
  go_ret
  exact ⟨rfl, pw_below_drewN HB4.out _⟩
end Go.Proofs.YtlifdpfhepamfaaHv
