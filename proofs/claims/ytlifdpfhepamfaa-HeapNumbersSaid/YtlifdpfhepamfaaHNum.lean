/- HeapNumbers: the walk. -/
import Derived.Test.YtlifdpfhepamfaaHNumP
import Derived.Test.YtlifdpfhepamfaaRgM
import Derived.Test.YtlifdpfhepamfaaHv
import Derived.Test.YtlifdpfhepamfaaPlace
import Derived.Deep.RegionHeld3
namespace Go.Proofs.YtlifdpfhepamfaaHNum
open Go.RowKit Go.Maps Go.Proofs.YtlifdpfhepamfaaW.PrintWords Go.Proofs.YtlifdpfhepamfaaW.PrintLast Go.Proofs.YtlifdpfhepamfaaW.PrintMore Go.Proofs.YtlifdpfhepamfaaMem Go.Proofs.YtlifdpfhepamfaaLeaf Go.Proofs.YtlifdpfhepamfaaBits Go.Proofs.Ytlifdpfhepamfaa.PHe Go.Proofs.YtlifdpfhepamfaaRow Go.Proofs.YtlifdpfhepamfaaAr Go.Proofs.YtlifdpfhepamfaaHp Go.Proofs.YtlifdpfhepamfaaHn Go.Proofs.YtlifdpfhepamfaaHo Go.Proofs.YtlifdpfhepamfaaWd Go.Proofs.YtlifdpfhepamfaaRd Go.Proofs.YtlifdpfhepamfaaRt Go.Proofs.YtlifdpfhepamfaaRn Go.Proofs.YtlifdpfhepamfaaNof Go.Proofs.YtlifdpfhepamfaaPair Go.Proofs.YtlifdpfhepamfaaOp Go.Proofs.YtlifdpfhepamfaaHNumP Go.Proofs
set_option linter.unusedVariables false
set_option linter.unusedSimpArgs false
def T6 : Bool × List (List Nat × List Nat) := (true, [([], []), ([], []), ([0, 1, 1], [0, 1]), ([2], [2]), ([3], [3]), ([3], [3]), ([4, 2, 0, 1, 2, 3, 4], [4])])
def B6 : List Nat := [0, 0, 3, 7, 15, 15, 31]
theorem tab6 : rtab .any (opsOf Try.f6 6) = T6 := by kernel_rfl
theorem bits6 : waitsOk T6.2 B6 = true := by kernel_rfl
/-- The law's number in its variable. -/
structure Vn (w W : World) (g8 : Nat) (sg : Bool) (A : Option Addr) (c : Nat) (xs : List Int) : Prop where
  n : NumAt W g8 sg A xs.length c
  r : RR W w.heap.size A c xs
  b : Below w.heap.size w W
  g : w.heap.size ≤ g8
section
variable {w W W1 : World} {g8 : Nat} {sg s2 : Bool} {A A2 : Option Addr} {c c2 : Nat} {xs ys : List Int}
theorem Vn.below (h : Vn w W g8 sg A c xs) (hb : Below W.heap.size W W1) : Vn w W1 g8 sg A c xs := ⟨h.n.below hb, Kd.R_below h.r hb, below_step h.b hb, h.g⟩
theorem Vn.put (h : Vn w W g8 sg A c xs) (hb : Below W.heap.size W W1) (hr : RR W1 w.heap.size A2 c2 ys) : Vn w ((W1.setCell ⟨g8, 0, none⟩ (.bool s2)).setCell ⟨g8, 1, none⟩ (.slice A2 ys.length c2)) g8 s2 A2 c2 ys :=
  ⟨two_put (h.n.below hb), num_far (Kd.R_types hr (h.n.below hb) (by decide)) g8 _ _ (fun _ hk => hk.2), below_set (below_set (below_step h.b hb) h.g) h.g, h.g⟩
theorem Vn.cr (h : Vn w W g8 sg A c xs) : CR W A xs ∧ xs.length ≤ c := ⟨(Kd.R_reads' h.r).2.2, (Kd.R_reads' h.r).2.1⟩
end
theorem chks (k : Nat) (hk : k < 200) : chk0 k = true ∧ ∀ neg less, chk k neg less = true := by
  have h0 := List.all_eq_true.1 all0 k (List.mem_range.2 hk)
  have h1 := List.all_eq_true.1 all1 k (List.mem_range.2 hk)
  simp only [Bool.and_eq_true] at h1
  refine ⟨h0, fun neg less => ?_⟩
  cases neg <;> cases less
  · exact h1.1.1.1
  · exact h1.1.1.2
  · exact h1.1.2
  · exact h1.2
theorem u32_all {xs : List Int} (h : xs.all (fun x => decide (0 ≤ x) && decide (x < 4294967296)) = true) : U32 xs := by
  intro i
  by_cases hi : i < xs.length
  · rw [List.getD_eq_getElem?_getD, List.getElem?_eq_getElem hi]
    have := List.all_eq_true.1 h _ (List.getElem_mem hi)
    simp only [Bool.and_eq_true, decide_eq_true_eq] at this
    exact this
  · rw [List.getD_eq_getElem?_getD, List.getElem?_eq_none (by omega)]
    simp
theorem nb_cases (k : Nat) (neg less : Bool) (sg : Bool) (xs : List Int) (hc : chk k neg less = true) (hf : fin_ k neg less = (sg, xs)) :
    ∃ x l', numR true sg xs [] 20 = (x, true) ∧ numL true sg xs [] 20 = l' ∧ (decide ((l'.length : Int) = 0) = isSmall k neg less) ∧
    (∀ W B h g gw m v ns, Hp B W h g gw m v l' 20 ns → Calls Try.prog 42 #[.pointer (some ⟨h, 0, none⟩), .int .u64 x] W fun e w' => ∃ A c, e = .returned (.tuple #[tv 1 sg A xs.length c ⟨#[]⟩ 0 none 0 0, .bool true]) ∧ RL w' (W.heap.size + 1) A c xs ∧ Below W.heap.size W w') ∧
    relictref02_Check.f sg xs = some true ∧ num_Check.f sg xs = some true ∧ U32 xs ∧ xs.length ≤ 12 ∧ relictref01_Cmp.f F xs xs = some 0 := by
  simp only [chk, hf, Bool.and_eq_true, decide_eq_true_eq] at hc
  obtain ⟨⟨⟨⟨⟨⟨⟨_, h1⟩, h2⟩, h3⟩, h4⟩, h5⟩, h6⟩, h7⟩ := hc
  have hu := u32_all h3
  cases hs : isSmall k neg less with
  | true =>
    rw [hs] at h6 h7
    simp only [if_true, Bool.and_eq_true, decide_eq_true_eq] at h7
    obtain ⟨⟨⟨z0, z1⟩, z2⟩, z3⟩ := h7
    refine ⟨smallW (z_ sg xs), [], ?_, ?_, rfl, ?_, h1, h2, hu, h4, h5⟩
    · unfold numR
      rw [if_neg (by simp), if_pos h6]
      rfl
    · unfold numL
      rw [if_neg (by simp), if_pos h6]
    · intro W B h g gw m v ns H
      have q := Go.Proofs.YtlifdpfhepamfaaRg.get_small W B h g gw m v [] 20 ns (z_ sg xs) H z0 z1
      rw [z2, z3] at q
      exact q
  | false =>
    rw [hs] at h6 h7
    simp only [Bool.false_eq_true, if_false, decide_eq_true_eq] at h7
    have hl : (numWs sg xs).length ≤ 20 - ([] : List Int).length := by unfold numWs boxWs; simp; omega
    refine ⟨ptrW 2 0, numWs sg xs, ?_, ?_, ?_, ?_, h1, h2, hu, h4, h5⟩
    · unfold numR
      rw [if_neg (by simp), if_neg (by rw [h6]; simp)]
      unfold objR
      rw [if_pos hl]
      rfl
    · unfold numL
      rw [if_neg (by simp), if_neg (by rw [h6]; simp)]
      unfold objL
      rw [if_pos hl]
      rfl
    · refine decide_eq_false ?_
      unfold numWs boxWs
      simp
      omega
    · intro W B h g gw m v ns H
      refine Go.Proofs.YtlifdpfhepamfaaRg.get_box W B h g gw m v (numWs sg xs) 20 ns 0 sg (if sg then 3 else 2) xs ?_ H hu h7 h4 h2 ⟨[], by simp [numWs]⟩
      cases sg
      · exact .inl ⟨rfl, rfl⟩
      · exact .inr ⟨rfl, rfl⟩
theorem limbs1 : limbs 1 = [1] := by decide
theorem of_one (W : World) : Calls Try.prog 40 #[.int .i64 1] W fun e w' => ∃ A c, e = .returned (.agg #[.bool false, .slice A 1 c]) ∧ RR w' W.heap.size A c [1] ∧ Below W.heap.size W w' := by
  refine (relictref02_Of.calls 0 1 false [1] W (by unfold relictref02_Of.f; rw [limbs1]; simp)).mono ?_
  rintro e w' ⟨v, rfl, hR, hb⟩
  obtain ⟨A, c, rfl⟩ := Kd.R_slice hR
  exact ⟨A, c, rfl, hR, hb⟩
theorem of_nat (W : World) (k : Nat) (hk : k < 200) : Calls Try.prog 40 #[.int .i64 (k : Int)] W fun e w' => ∃ A c, e = .returned (.agg #[.bool false, .slice A (limbs (k : Int)).length c]) ∧ RR w' W.heap.size A c (limbs (k : Int)) ∧ Below W.heap.size W w' := by
  refine (relictref02_Of.calls 0 (k : Int) false (limbs (k : Int)) W (by unfold relictref02_Of.f; rw [if_pos (by omega), if_pos (by omega)])).mono ?_
  rintro e w' ⟨v, rfl, hR, hb⟩
  obtain ⟨A, c, rfl⟩ := Kd.R_slice hR
  exact ⟨A, c, rfl, hR, hb⟩
set_option maxHeartbeats 8000000 in
set_option maxRecDepth 100000 in
theorem law_calls (n : Int) (neg less : Bool) (w : World) :
    Calls Try.prog 6 #[.int .i64 n, .bool neg, .bool less] w fun e w' => e = .returned (.bool true) ∧ Below w.heap.size w w' := by
  have hut := Try.underlying43
  have hun := Try.underlying41
  have r0 := Int.emod_nonneg n (show (200 : Int) ≠ 0 by omega)
  have r1 := Int.emod_lt_of_pos n (show (0 : Int) < 200 by omega)
  obtain ⟨k, hk⟩ : ∃ k : Nat, n % 200 = (k : Int) := ⟨(n % 200).toNat, by omega⟩
  have HPL := Aside0.mk (fun W => Go.Proofs.YtlifdpfhepamfaaPl.place_calls n 200 W (by omega) (by omega))
  rw [hk] at HPL r1
  have hk2 : k < 200 := by omega
  obtain ⟨hc0, hc1⟩ := chks k hk2
  have HC0 := Aside0.mk hc0
  have HC1 := Aside0.mk (hc1 neg less)
  have HC2 := Aside0.mk (hc1 neg true)
  clear r0 r1 hk hc0 hc1
  go_enter Try.func6, Try.ntmps6
  go_wp2_with fail
  refine (HPL.out _).mono ?_
  rintro e w1 ⟨rfl, nd1, rfl⟩
  have HB1 := Aside0.mk (pw_below_drewN (Below.refl w.heap.size w) nd1)
  generalize w.drewN nd1 = V at HB1 ⊢
  clear HPL
  go_wp2_with fail
  refine (of_one V).mono ?_
  rintro e w2 ⟨A1, c1, rfl, hR1, hb2⟩
  have HR1 := Aside0.mk hR1
  have HB2 := Aside0.mk hb2
  clear hR1 hb2
  go_wp2_with fail
  refine (of_nat w2 k hk2).mono ?_
  rintro e w3 ⟨A2, c2, rfl, hR2, hb3⟩
  have HOP := Aside0.mk (op9_ok F V w3 (below_step HB2.out hb3) A1 c1 [1] A2 c2 (limbs (k : Int)) (Kd.R_below HR1.out hb3) (Kd.R_lower hR2 HB2.out.size)
    (fun q hq hs => by have h1 := Kd.R_lt HR1.out q hq.symm; have h2 := Kd.R_base hR2 q hs.symm; omega) one_ok.1 (by have := HC0.out; simp only [chk0, Bool.and_eq_true, decide_eq_true_eq] at this; exact this.1.1.1.2) (k : Int) (by omega) (by have := HC0.out; simp only [chk0, Bool.and_eq_true, decide_eq_true_eq] at this; exact this.1.1.1.1.1) false (v0 k) true (by have := HC0.out; simp only [chk0, Bool.and_eq_true, decide_eq_true_eq] at this; exact this.1.1.1.1.2))
  clear hR2 hb3 HR1 HB2
  generalize limbs (k : Int) = lk at HOP ⊢
  go_wp2_with fail
  refine HOP.out.mono ?_
  rintro e w4 ⟨A3, c3, rfl, hR3, hb4⟩
  have HR3 := Aside0.mk (Kd.R_lower hR3 HB1.out.size)
  have HB4 := Aside0.mk (below_step HB1.out hb4)
  clear hR3 hb4 HOP HB1
  obtain ⟨g8, hg8⟩ : ∃ g8, w4.heap.size = g8 := ⟨_, rfl⟩
  obtain ⟨W5, hW5⟩ : ∃ W5, w4.alloc (.cells #[.bool false, .slice none 0 0] 41) = W5 := ⟨_, rfl⟩
  have h5 : Ze W5 g8 := by rw [← hW5, ← hg8]; exact heap_alloc_new _ _
  have hb5 : Below w4.heap.size w4 W5 := by rw [← hW5]; exact below_alloc (Below.refl _ _) _
  obtain ⟨c0, c1_, f0, f1⟩ := two_cells h5
  have hv5 : Vn w ((W5.setCell ⟨g8, 0, none⟩ (.bool false)).setCell ⟨g8, 1, none⟩ (.slice A3 (v0 k).length c3)) g8 false A3 c3 (v0 k) :=
    ⟨two_put h5, num_far (Kd.R_types (Kd.R_below HR3.out hb5) h5 (by decide)) g8 _ _ (fun _ hk => hk.2), below_set (below_set (below_step HB4.out hb5) (by have := HB4.out.size; omega)) (by have := HB4.out.size; omega), by have := HB4.out.size; omega⟩
  have HV := Aside0.mk hv5
  clear h5 hb5 hv5 HR3 HB4
  generalize hxs : v0 k = xs0 at HV ⊢
  have HX0 := Aside0.mk hxs
  clear hxs
  go_upto_if 25 with (fail)
  go_cut [] (fun wc => ∃ A c, Aside0 (Vn w wc g8 neg A c xs0))
  case first =>
    cases neg with
    | false =>
      go_wp2_with fail
      go_meet
      exact ⟨A3, c3, HV⟩
    | true =>
      have hck := HC0.out
      simp only [chk0, Bool.and_eq_true, decide_eq_true_eq, HX0.out] at hck
      generalize (W5.setCell ⟨g8, 0, none⟩ (.bool false)).setCell ⟨g8, 1, none⟩ (.slice A3 xs0.length c3) = W6 at HV ⊢
      obtain ⟨d0, d1, e0, e1⟩ := two_cells HV.out.n
      have HNG := Aside0.mk (neg_ok F W6 false A3 c3 xs0 true xs0 true HV.out.cr.1 HV.out.cr.2 hck.1.1.2 hck.2)
      clear hck c0 c1_ f0 f1 hW5
      go_wp2_with fail
      refine HNG.out.mono ?_
      rintro e w7 ⟨A5, c5, rfl, hR, hb⟩
      have hv := HV.out.put (s2 := true) hb (Kd.R_lower hR HV.out.b.size)
      have HVV := Aside0.mk hv
      obtain ⟨d0, d1, e0, e1⟩ := two_cells (HV.out.below hb).n
      clear hR hb hv HNG HV
      go_wp2_with fail
      go_meet
      exact ⟨A5, c5, HVV⟩
  case rest =>
    obtain ⟨A5, c5, HV⟩ := hcut
    clear c0 c1_ f0 f1 hW5
    generalize hf : fin_ k neg less = fv
    have HF := Aside0.mk hf
    clear hf
    go_upto_if 28 with (fail)
    go_cut [] (fun wc => ∃ A c, Aside0 (Vn w wc g8 fv.1 A c fv.2))
    case first =>
      cases less with
      | false =>
        have e : fv = (neg, xs0) := by rw [← HF.out, ← HX0.out]; rfl
        subst e
        go_wp2_with fail
        go_meet
        exact ⟨A5, c5, HV⟩
      | true =>
        have hck := HC2.out
        simp only [chk, Bool.and_eq_true, decide_eq_true_eq, HX0.out] at hck
        have hch : relictref02_Check.f neg xs0 = some true := by
          have := HC0.out
          simp only [chk0, Bool.and_eq_true, decide_eq_true_eq, HX0.out] at this
          cases neg
          · exact this.1.1.2
          · exact this.1.2
        have e : fv = v1 k neg := by rw [← HF.out]; rfl
        have hadd := hck.1.1.1.1.1.1.1
        rw [← e] at hadd
        clear e
        obtain ⟨d0, d1, e0, e1⟩ := two_cells HV.out.n
        obtain ⟨Y, hY⟩ : ∃ Y, wc = Y := ⟨_, rfl⟩
        rw [hY] at HV d0 d1 e0 e1 ⊢
        have HOP := Aside0.mk (fun W (hb : Below Y.heap.size Y W) A6 c6 (h6 : CR W A6 [1]) (hc6 : [1].length ≤ c6) => (show Calls Try.prog 39 #[.int .i64 2, .agg #[.bool neg, .slice A5 xs0.length c5], .agg #[.bool false, .slice A6 1 c6]] W fun e w' => ∃ A' c', e = .returned (.tuple #[.agg #[.bool fv.1, .slice A' fv.2.length c'], .bool true]) ∧ RR w' W.heap.size A' c' fv.2 ∧ Below W.heap.size W w' from Go.Proofs.YtlifdpfhepamfaaOp2.op2_ok F W neg false A5 c5 xs0 A6 c6 [1] (Kd.C_below HV.out.cr.1 hb) HV.out.cr.2 h6 hc6 hch one_ok.1 true [1] true one_ok.2 fv.1 fv.2 true hadd))
        clear hck hadd hY hch
        go_wp2_with fail
        have HBB := Aside0.mk (below_drew (Below.refl Y.heap.size Y))
        refine start_ (n := 7) (S := fun w' => Below Y.heap.size Y w') (ds := [6]) #[false, false, false, false, false, false, false] (by kernel_rfl) rfl rfl HBB.out (fun hHeld => ?_); refine with_tabW tab6 bits6 (fun HT_ HW_ => ?_)
        generalize Y.drew = wd at HBB hHeld ⊢
        refine take_ (i := 0) (N := (some 30)) (v := (.agg #[.bool neg, .slice A5 xs0.length c5])) (a' := ?_) #[true, false, false, false, false, false, false] rfl rfl (take_ofW HT_.out HW_.out (by kernel_rfl)) (fun _ _ _ h => h) (Or.inl ⟨by rfl, ?_⟩) hHeld ?_ ?_
        · (intro w' hs; obtain ⟨d0, d1, _, _⟩ := two_cells ((hs.block _ (blk_lt HV.out.n)).trans HV.out.n); go_simp)
        rotate_left; (simp only [Act.put, List.setIfInBounds_toArray, List.set_cons_zero, List.set_cons_succ, i64_w, i32_w]; rfl)
        refine one_ (i := 1) (N := (some 31)) #[true, true, false, false, false, false, false] rfl rfl (one_of HT_.out (by kernel_rfl)) (by decide) (fun K hK => ?_)
        refine goes_ Try.func40 (by kernel_rfl) rfl #[.int .i64 1] (by rfl) rfl rfl (by (try simp only [List.map_toArray, List.map_cons, List.map_nil]); first | done | rfl) ?_
        refine (of_one _).mono ?_
        rintro e wn ⟨A6, c6, rfl, hR, hb⟩
        refine ⟨_, rfl, ?_⟩
        have HN6 := Aside0.mk (And.intro (Kd.R_reads' hR).2.2 (Kd.R_reads' hR).2.1)
        clear hR
        have n0_ := Aside0.mk (below_step HBB.out hb)
        clear HBB hHeld hb
        have HBB := n0_
        clear n0_
        refine hK.out _ _ HBB.out (fun hHeld => ?_)
        clear hK K
        refine norm_ (a' := ?_) ?_ ?_
        rotate_left
        · show Act.put _ (some 31) _ = _
          simp only [Act.put, List.setIfInBounds_toArray, List.set_cons_zero, List.set_cons_succ, i64_w, i32_w]
          rfl
        refine one_ (i := 2) (N := (some 32)) #[true, true, true, false, false, false, false] rfl rfl (one_of HT_.out (by kernel_rfl)) (by decide) (fun K hK => ?_)
        refine goes_ Try.func39 (by kernel_rfl) rfl #[.int .i64 2, .agg #[.bool neg, .slice A5 xs0.length c5], .agg #[.bool false, .slice A6 1 c6]] (by rfl) rfl rfl (by (try simp only [List.map_toArray, List.map_cons, List.map_nil]); first | done | rfl) ?_
        refine (HOP.out _ HBB.out A6 c6 HN6.out.1 HN6.out.2).mono ?_
        rintro e wm ⟨A7, c7, rfl, hR, hb⟩
        refine ⟨_, rfl, ?_⟩
        have HR7 := Aside0.mk (Kd.R_lower hR (Nat.le_trans HV.out.b.size HBB.out.size))
        clear hR
        have n0_ := Aside0.mk (below_step HBB.out hb)
        clear HBB hHeld hb
        have HBB := n0_
        clear n0_
        refine hK.out _ _ HBB.out (fun hHeld => ?_)
        clear hK K
        refine norm_ (a' := ?_) ?_ ?_
        rotate_left
        · show Act.put _ (some 32) _ = _
          simp only [Act.put, List.setIfInBounds_toArray, List.set_cons_zero, List.set_cons_succ, i64_w, i32_w]
          rfl
        refine pure_ (i := 3) (N := (some 29)) (v := ?_) (a' := ?_) #[true, true, true, true, false, false, false] rfl rfl (any_of HT_.out (by kernel_rfl)) (fun _ _ _ h => h) (Or.inl ⟨by rfl, ?_⟩) ?_ ?_
        rotate_left; (intro w'; go_simp; with_reducible rfl)
        rotate_left; (simp only [Act.put, List.setIfInBounds_toArray, List.set_cons_zero, List.set_cons_succ, i64_w, i32_w]; rfl)
        refine pure_ (i := 4) (N := (some 33)) (v := ?_) (a' := ?_) #[true, true, true, true, true, false, false] rfl rfl (any_of HT_.out (by kernel_rfl)) (fun _ _ _ h => h) (Or.inl ⟨by rfl, ?_⟩) ?_ ?_
        rotate_left; (intro w'; go_simp; with_reducible rfl)
        rotate_left; (simp only [Act.put, List.setIfInBounds_toArray, List.set_cons_zero, List.set_cons_succ, i64_w, i32_w]; rfl)
        refine pure_ (i := 5) (N := (some 34)) (v := ?_) (a' := ?_) #[true, true, true, true, true, true, false] rfl rfl (any_of HT_.out (by kernel_rfl)) (fun _ _ _ h => h) (Or.inl ⟨by rfl, ?_⟩) ?_ ?_
        rotate_left; (intro w'; go_simp; with_reducible rfl)
        rotate_left; (simp only [Act.put, List.setIfInBounds_toArray, List.set_cons_zero, List.set_cons_succ, i64_w, i32_w]; rfl)
        obtain ⟨d0, d1, e0, e1⟩ := two_cells ((HBB.out.block _ (blk_lt HV.out.n)).trans HV.out.n)
        refine last_ (i := 6) (N := none) #[true, true, true, true, true, true, true] rfl rfl (one_of HT_.out (by kernel_rfl)) (by decide) (fun K hK => ?_)
        refine skip_ (w1 := ?_) (by rfl) rfl ?_ ?_
        rotate_left
        · go_simp
          rfl
        refine hK.out _ _ ?_
        clear hK K
        refine done_ (done_of HT_.out (by kernel_rfl)) ?_
        have HVV := Aside0.mk (HV.out.put (s2 := fv.1) HBB.out HR7.out)
        go_wp2_with fail
        go_meet
        exact ⟨A7, c7, HVV⟩
    case rest =>
      obtain ⟨A7, c7, HV⟩ := hcut
      clear HC2 HX0 HC0
      obtain ⟨sg, xs⟩ := fv
      have hnb := nb_cases k neg less sg xs HC1.out HF.out
      obtain ⟨x, l', hnR, hnL, hsm, hget, hck, hnc, hu32, hlen, hcmp⟩ := hnb
      have HNW := Aside0.mk (new_calls 20 wc w.heap.size HV.out.b.size)
      rw [show sizeA 20 = 20 from rfl] at HNW
      have HNB := Aside0.mk (fun W h g gw m (hH : Hp w.heap.size W h g gw m (.slice none 0 0) [] 20 []) (hb : Below wc.heap.size wc W) => number_calls W w.heap.size h g gw m (.slice none 0 0) [] 20 [] sg A7 c7 xs true hH (HV.out.below hb).cr.1 HV.out.cr.2 hnc hu32 (fun _ => hlen))
      rw [hnR, hnL] at HNB
      have HGT := Aside0.mk hget
      have HCM := Aside0.mk (fun W A1 c1 (h1 : CR W A1 xs) (hc1 : xs.length ≤ c1) (hb : Below wc.heap.size wc W) => cmp_ok F W sg A1 A7 c1 c7 xs h1 hc1 (HV.out.below hb).cr.1 HV.out.cr.2 hck hcmp)
      have HSM := Aside0.mk hsm
      clear hnR hnL hsm hget hck hnc hu32 hlen hcmp HC1 HF
      go_wp2_with fail
      refine HNW.out.mono ?_
      rintro e w8 ⟨h, g, gw, m, rfl, hH, hb8, hlo⟩
      obtain ⟨c0, _, _, _⟩ := hH.cells
      have HH := Aside0.mk hH
      have HB8 := Aside0.mk hb8
      have HLO := Aside0.mk hlo
      have HV8 := Aside0.mk (HV.out.below hb8)
      obtain ⟨d0, d1, e0, e1⟩ := two_cells HV8.out.n
      have HN8 := Aside0.mk (HNB.out w8 h g gw m hH hb8)
      clear hH hb8 hlo HNW HNB
      go_wp2_with fail
      refine HN8.out.mono ?_
      rintro e w9 ⟨rfl, hH, hm⟩
      have hb9 : Below w8.heap.size w8 w9 → True := fun _ => trivial
      have HB9 := Aside0.mk (show Below wc.heap.size wc w9 from below_mods HB8.out hm HB8.out.size (fun q hq => HLO.out q hq))
      have HH9 := Aside0.mk hH
      have HG9 := Aside0.mk (HGT.out w9 w.heap.size h g gw m (.slice none 0 0) [] hH)
      clear hH hm HN8 HGT HH HLO HB8 HV8 d0 d1 e0 e1 c0 hb9
      go_wp2_with fail
      refine HG9.out.mono ?_
      rintro e w10 ⟨A8, c8, rfl, hR, hb⟩
      have HR10 := Aside0.mk hR
      have HB10 := Aside0.mk (below_step HB9.out hb)
      have HH10 := Aside0.mk (HH9.out.below hb)
      clear hR hb HG9 HB9 HH9
      obtain ⟨gq, hgq⟩ : ∃ gq, w10.heap.size = gq := ⟨_, rfl⟩
      obtain ⟨W8, hW8⟩ : ∃ W8, w10.alloc (.cells #[.int .i64 0, .bool false, .slice none 0 0, .string ⟨#[]⟩, .int .i64 0, .slice none 0 0] 43) = W8 := ⟨_, rfl⟩
      have hn8 : W8.heap[gq]? = some (.cells #[.int .i64 0, .bool false, .slice none 0 0, .string ⟨#[]⟩, .int .i64 0, .slice none 0 0] 43 (0, 0)) := by rw [← hW8, ← hgq]; exact heap_alloc_new _ _
      have hb8 : Below w10.heap.size w10 W8 := by rw [← hW8]; exact below_alloc (Below.refl _ _) _
      obtain ⟨p0, p1, p2, p3, p4, p5⟩ := six_cells hn8
      obtain ⟨z0, z1, z2, z3, z4, z5⟩ := six_live hn8
      have m8 := six_put (a' := .int .i64 1) (b' := .bool sg) (c' := .slice A8 xs.length c8) (d' := .string ⟨#[]⟩) (e' := .int .i64 0) (f' := .slice none 0 0) hn8
      obtain ⟨W9, hW9⟩ : ∃ W9, (((((W8.setCell ⟨gq, 0, none⟩ (.int .i64 1)).setCell ⟨gq, 1, none⟩ (.bool sg)).setCell ⟨gq, 2, none⟩ (.slice A8 xs.length c8)).setCell ⟨gq, 3, none⟩ (.string ⟨#[]⟩)).setCell ⟨gq, 4, none⟩ (.int .i64 0)).setCell ⟨gq, 5, none⟩ (.slice none 0 0) = W9 := ⟨_, rfl⟩
      rw [hW9] at m8
      have hb9 : Below w10.heap.size w10 W9 := by rw [← hW9]; exact below_six hb8 (by rw [hgq]; exact Nat.le_refl _)
      have HB11 := Aside0.mk (below_step HB10.out hb9)
      have HH11 := Aside0.mk (HH10.out.below hb9)
      have hr11 := Kd.R_below HR10.out hb9
      have HCC := Aside0.mk (HCM.out W9 A8 c8 (Kd.R_reads' hr11).2.2 (Kd.R_reads' hr11).2.1 HB11.out)
      obtain ⟨q0, q1, q2, q3, q4, q5⟩ := six_cells m8
      obtain ⟨d0, d1, e0, e1⟩ := two_cells (HV.out.below HB11.out).n
      obtain ⟨c0, _, _, _⟩ := HH11.out.cells
      have HBW := Aside0.mk (below_step HV.out.b HB11.out)
      clear hn8 hb8 hb9 m8 hr11 HCM HR10 HB10 HH10 HV
      unfold tv
      go_upto_region 12 with (fail)
      go_cut [15] (fun v15 wx => v15 = .bool (isSmall k neg less) ∧ wx = W9)
      case first =>
        clear q0 q1 q2 q3 q4 q5 d0 d1 e0 e1 c0 p0 p1 p2 p3 p4 p5 z0 z1 z2 z3 z4 z5
        by_cases k1 : k < 59
        · have b1 : (k : Int) < 59 := by omega
          have hs : isSmall k neg less = true := by unfold isSmall; rw [decide_eq_true k1]; rfl
          have HS := Aside0.mk hs
          clear hs
          go_wp2_with fail
          go_meet
          exact ⟨by rw [HS.out], rfl⟩
        · have b1 : ¬ (k : Int) < 59 := by omega
          by_cases k2 : k = 59
          · subst k2
            have hs : isSmall 59 neg less = (neg != less) := by cases neg <;> cases less <;> rfl
            have HS := Aside0.mk hs
            clear hs
            cases neg <;> cases less <;> (go_wp2_with fail; go_meet; exact ⟨by rw [HS.out]; rfl, rfl⟩)
          · have b2 : ((k : Int) == 59) = false := beq_eq_false_iff_ne.mpr (by omega)
            have b3 : ¬ (k : Int) = 59 := by omega
            have hs : isSmall k neg less = false := by unfold isSmall; rw [decide_eq_false k1, decide_eq_false k2]; rfl
            have HS := Aside0.mk hs
            clear hs
            go_wp2_with fail
            go_meet
            exact ⟨by rw [HS.out], rfl⟩
      case rest =>
        obtain ⟨rfl, rfl⟩ := hcut
        go_wp2_with fail
        refine HCC.out.mono ?_
        rintro e w12 ⟨rfl, hb⟩
        have HH12 := Aside0.mk (HH11.out.below hb)
        have HB12 := Aside0.mk (below_step HBW.out hb)
        obtain ⟨c0, _, _, _⟩ := HH12.out.cells
        have HU := Aside0.mk (used_calls w12 g gw 20 l' HH12.out.ar)
        have hsm := HSM.out
        clear hb HH11 HBW HCC q0 q1 q2 q3 q4 q5 d0 d1 e0 e1
        go_wp2_with fail
        refine HU.out.mono ?_
        rintro e w13 ⟨rfl, nd, rfl⟩
        have hsm2 : (((l'.length : Int) == 0) == isSmall k neg less) = true := by
          rw [← hsm]
          by_cases h0 : (l'.length : Int) = 0
          · rw [h0]; rfl
          · rw [decide_eq_false h0, beq_eq_false_iff_ne.mpr h0]; rfl
        have HB13 := Aside0.mk (pw_below_drewN HB12.out nd)
        clear hsm HU
        go_wp2_with fail
        refine (Go.Proofs.YtlifdpfhepamfaaHv.awake_calls _).mono ?_
        rintro e w14 ⟨rfl, hb⟩
        have HB14 := Aside0.mk (below_step HB13.out hb)
        clear hb
        go_wp2_with fail
        go_ret
        exact ⟨rfl, HB14.out⟩
end Go.Proofs.YtlifdpfhepamfaaHNum
