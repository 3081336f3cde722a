/- RegsSources: the walk. -/
import Derived.Test.YthdmacdeefohkaaSrcRegA
import Derived.Test.YthdmacdeefohkaaSrcRegB
import Derived.Test.YthdmacdeefohkaaSrcRegC
import Derived.Test.YthdmacdeefohkaaSrcEnd
import Derived.Test.YthdmacdeefohkaaSrcEndB
import Derived.Test.YthdmacdeefohkaaPlace
import Derived.Deep.RegionHeld3
namespace Go.Proofs.YthdmacdeefohkaaSrcLaw
open Go.RowKit Go.Proofs.YthdmacdeefohkaaW.PrintWords Go.Proofs.YthdmacdeefohkaaW.PrintLast Go.Proofs.YthdmacdeefohkaaW.PrintMore Go.Proofs.YthdmacdeefohkaaMem Go.Proofs.YthdmacdeefohkaaLeaf Go.Proofs.YthdmacdeefohkaaBits Go.Proofs.Ythdmacdeefohkaa.PMa Go.Proofs.YthdmacdeefohkaaMTerm Go.Proofs.YthdmacdeefohkaaMVal Go.Proofs.YthdmacdeefohkaaIntT Go.Proofs.YthdmacdeefohkaaRegs Go.Proofs.YthdmacdeefohkaaStands Go.Proofs.YthdmacdeefohkaaSource Go.Proofs.YthdmacdeefohkaaNew Go.Proofs.YthdmacdeefohkaaArgs Go.Proofs.YthdmacdeefohkaaAwake21 Go.Proofs.YthdmacdeefohkaaSrcRegA Go.Proofs.YthdmacdeefohkaaSrcRegB Go.Proofs.YthdmacdeefohkaaSrcRegC Go.Proofs.YthdmacdeefohkaaSrcEnd Go.Proofs.YthdmacdeefohkaaSrcEndB Go.Proofs.YthdmacdeefohkaaPl Go.Proofs
set_option linter.unusedVariables false
set_option linter.unusedSimpArgs false
def T5 : Bool × List (List Nat × List Nat) := (true, [([], []), ([0], [0]), ([], []), ([], []), ([2, 3], [2, 3]), ([4], [4]), ([5], [5]), ([6], [6]), ([1, 7, 6], [1, 7]), ([0, 1, 2, 3, 4, 5, 6, 7, 8], []), ([9, 8, 8, 0, 1, 2, 3, 4, 5, 6, 7, 8], [8, 9])])
def B5 : List Nat := [0, 1, 0, 0, 12, 28, 60, 124, 255, 511, 1023]
theorem tab5 : rtab .any (opsOf Try.f10 5) = T5 := by kernel_rfl
theorem bits5 : waitsOk T5.2 B5 = true := by kernel_rfl
theorem BoxF.set_ {W : World} {g gr : Nat} {x : S45} {A2 : Option Addr} {c2 : Nat} {A5 : Option Addr} {c5 : Nat} {CS : Array Value} (h : BoxF W g x A2 c2 A5 c5) (hg : W.heap[gr]? = some (.cells CS 70 (0, 0))) (k : Nat) (u : Value) : BoxF (W.setCell ⟨gr, k, none⟩ u) g x A2 c2 A5 c5 :=
  ⟨(Below.heap_setCell W ⟨gr, k, none⟩ u g (fun e => by have h1 := h.1; rw [e, hg] at h1; injection h1 with h1; injection h1 with _ h1; exact absurd h1 (by decide))).trans h.1, h.2.set_ (p := ⟨gr, k, none⟩) hg (by decide) u⟩
/-- The law's world while the literals are made. -/
def Lp (w W : World) (g0 gm : Nat) (A : Option Addr) (c : Nat) (xs : List S45) : Prop :=
  Below w.heap.size w W ∧ w.heap.size ≤ g0 ∧ w.heap.size ≤ gm ∧ W.heap[g0]? = some (.cells #[.string ⟨#[97]⟩, .string ⟨#[98]⟩, .string ⟨#[99]⟩] 9 (0, 0)) ∧
    W.heap[gm]? = some (.cells #[.slice (some ⟨g0, 0, none⟩) 3 3, .slice none 0 0, .slice none 0 0, .slice none 0 0, .slice A xs.length c, .slice none 0 0] 66 (0, 0)) ∧ Kd.R kF 45 W w.heap.size (fun _ => True) (.slice A xs.length c) xs
theorem Lp.below {w W W' : World} {g0 gm : Nat} {A : Option Addr} {c : Nat} {xs : List S45} (h : Lp w W g0 gm A c xs) (hb : Below W.heap.size W W') : Lp w W' g0 gm A c xs := by
  obtain ⟨h1, h2, h3, h4, h5, h6⟩ := h
  exact ⟨below_step h1 hb, h2, h3, (hb.block _ (blk_lt h4)).trans h4, (hb.block _ (blk_lt h5)).trans h5, Kd.R_below h6 hb⟩
theorem Lp.ne {w W : World} {g0 gm : Nat} {A : Option Addr} {c : Nat} {xs : List S45} (h : Lp w W g0 gm A c xs) : some g0 ≠ (Value.slice A xs.length c).ownBlock ∧ some gm ≠ (Value.slice A xs.length c).ownBlock := by
  obtain ⟨h1, h2, h3, h4, h5, h6⟩ := h
  obtain ⟨_, inner, ho, _⟩ := h6
  constructor
  · intro e
    obtain ⟨cells, hc⟩ := own_typed ho _ e.symm
    rw [hc] at h4
    injection h4 with h4
    injection h4 with _ h4
    exact absurd h4 (by decide)
  · intro e
    obtain ⟨cells, hc⟩ := own_typed ho _ e.symm
    rw [hc] at h5
    injection h5 with h5
    injection h5 with _ h5
    exact absurd h5 (by decide)
/-- One more is laid. -/
theorem Lp.more {w W W1 : World} {g0 gm : Nat} {A A1 : Option Addr} {c c1 : Nat} {xs : List S45} {y : S45} (h : Lp w W g0 gm A c xs) (hg : W.grownBy W1 (Value.slice A xs.length c).ownBlock) (hb : Below w.heap.size w W1)
    (hr : Kd.R kF 45 W1 w.heap.size (fun _ => True) (.slice A1 (xs ++ [y]).length c1) (xs ++ [y])) : Lp w (W1.setCell ⟨gm, 4, none⟩ (.slice A1 (xs ++ [y]).length c1)) g0 gm A1 c1 (xs ++ [y]) := by
  have hne := h.ne
  obtain ⟨h1, h2, h3, h4, h5, h6⟩ := h
  have e4 := (hg.block g0 (blk_lt h4) hne.1).trans h4
  have e5 := (hg.block gm (blk_lt h5) hne.2).trans h5
  have hgg : g0 ≠ gm := fun e => by
    rw [e, e5] at e4
    injection e4 with e4
    injection e4 with _ e4
    exact absurd e4 (by decide)
  refine ⟨hb.setCell (by exact h3) _, h2, h3, ?_, ?_, ?_⟩
  · exact (Below.heap_setCell W1 ⟨gm, 4, none⟩ _ g0 hgg).trans e4
  · exact blk_put (cs := #[.slice (some ⟨g0, 0, none⟩) 3 3, .slice none 0 0, .slice none 0 0, .slice none 0 0, .slice A xs.length c, .slice none 0 0]) e5 4 _ rfl
  · exact Kd.R_mono (Kd.R_far (p := ⟨gm, 4, none⟩) (Kd.R_types hr e5 (by decide)) (fun _ hk => hk.2) _) (fun _ _ => trivial)
set_option maxHeartbeats 16000000 in
set_option maxRecDepth 100000 in
theorem law_calls (n k : Int) (a : Option Addr) (len cap : Nat) (ls : List Int) (w : World) (hr : ReadsInt w .i64 a len ls ∧ len ≤ cap) (hw : ∀ x, x ∈ ls → -9223372036854775808 ≤ x ∧ x < 9223372036854775808) :
    Calls Try.prog 10 #[.int .i64 n, .int .i64 k, .slice a len cap] w fun e w' => e = .returned (.bool true) ∧ Below w.heap.size w w' := by
  have hu45 := Try.underlying45
  have hu70 := Try.underlying70
  have hu66 := Try.underlying66
  have hu43 := Try.underlying43
  have HR := Aside0.mk hr
  have HW := Aside0.mk hw
  obtain ⟨xs, hxs⟩ : ∃ xs : List S45, (ls.take 10).map intT = xs := ⟨_, rfl⟩
  have hxl : xs.length ≤ 10 := by rw [← hxs]; simp; omega
  have hxe : xs.length = len ∨ (xs.length = 10 ∧ 10 < len) := by rw [← hxs]; have := hr.1.1; simp; omega
  have hxi : ∀ i, i < xs.length → xs.take (i + 1) = xs.take i ++ [intT (ls.getD i 0)] := by
    intro i hi
    rw [List.take_add_one, List.getElem?_eq_getElem hi]
    congr 1
    have h1 : i < (ls.take 10).length := by rw [← hxs] at hi; simpa using hi
    have h2 : i < ls.length := by simp at h1; omega
    have e1 : xs[i] = intT ls[i] := by
      have q : xs[i]? = some (intT ls[i]) := by
        rw [← hxs, List.getElem?_map, List.getElem?_take, if_pos (by simp at h1; omega), List.getElem?_eq_getElem h2]
        rfl
      rw [List.getElem?_eq_getElem hi] at q
      injection q
    rw [e1, List.getD_eq_getElem?_getD, List.getElem?_eq_getElem h2]
    rfl
  have HXI := Aside0.mk hxi
  have HXS := Aside0.mk hxs
  clear hr hw hxs hxi
  obtain ⟨g0, hg0⟩ : ∃ g0, w.heap.size = g0 := ⟨_, rfl⟩
  obtain ⟨gm, hgm⟩ : ∃ gm, g0 + 1 = gm := ⟨_, rfl⟩
  obtain ⟨W, hW⟩ : ∃ W, (w.alloc (.cells #[.string ⟨#[97]⟩, .string ⟨#[98]⟩, .string ⟨#[99]⟩] 9)).alloc (.cells #[.slice none 0 0, .slice none 0 0, .slice none 0 0, .slice none 0 0, .slice none 0 0, .slice none 0 0] 66) = W := ⟨_, rfl⟩
  have hblk : W.heap[gm]? = some (.cells #[.slice none 0 0, .slice none 0 0, .slice none 0 0, .slice none 0 0, .slice none 0 0, .slice none 0 0] 66 (0, 0)) := by rw [← hW, ← hgm, ← hg0]; exact blk_new2 _ _ _
  have hnam : W.heap[g0]? = some (.cells #[.string ⟨#[97]⟩, .string ⟨#[98]⟩, .string ⟨#[99]⟩] 9 (0, 0)) := by rw [← hW, ← hg0]; exact blk_new1 _ _ _
  have hb : Below w.heap.size w W := by rw [← hW]; exact below_alloc (below_alloc (Below.refl _ _) _) _
  obtain ⟨b0, b1, b2, b3, b4, b5⟩ := six_cells hblk
  obtain ⟨f0, f1, f2, f3, f4, f5⟩ := six_live hblk
  have HG := Aside0.mk (show w.heap.size ≤ g0 ∧ w.heap.size ≤ gm by omega)
  have HLP := Aside0.mk (show Lp w ((((((W.setCell ⟨gm, 0, none⟩ (.slice (some ⟨g0, 0, none⟩) 3 3)).setCell ⟨gm, 1, none⟩ (.slice none 0 0)).setCell ⟨gm, 2, none⟩ (.slice none 0 0)).setCell ⟨gm, 3, none⟩ (.slice none 0 0)).setCell ⟨gm, 4, none⟩ (.slice none 0 0)).setCell ⟨gm, 5, none⟩ (.slice none 0 0)) g0 gm none 0 (xs.take 0) from
    ⟨below_six hb HG.out.2, HG.out.1, HG.out.2, blk_far hnam (by omega), six_put hblk, Kd.R_nil _ _ _ _ _⟩)
  clear hblk hnam hb
  go_enter Try.func10, Try.ntmps10
  go_wp2_with fail
  go_loopg [8] 12 (fun q v8 wr => ∃ (i : Nat) (A : Option Addr) (c : Nat), v8 = .int .i64 i ∧ i ≤ xs.length ∧ q = 12 - i ∧ Aside0 (Lp w wr g0 gm A c (xs.take i)))
  case atStart => exact ⟨0, none, 0, rfl, by omega, rfl, HLP⟩
  case round =>
    clear HLP hW b0 b1 b2 b3 b4 b5 f0 f1 f2 f3 f4 f5
    obtain ⟨i, A, c, rfl, hi, rfl, HLP⟩ := hrel
    by_cases hlt : i < xs.length
    · have c1 : (i : Int) < (len : Int) := by omega
      have c2 : (i : Int) < 10 := by omega
      obtain ⟨ad, ea, hc⟩ := HR.out.1.at_ (i : Int) (by omega) (by omega)
      subst ea
      rw [Int.toNat_natCast, show rd ls (i : Int) = ls.getD i 0 from by unfold rd; rw [Int.toNat_natCast]] at hc
      have hcw : wr.cell? (ad.add i) = some (.int .i64 (ls.getD i 0)) := (HLP.out.1.cell (World.block_lt_of_cell? w _ hc)).trans hc
      have hbd : -9223372036854775808 ≤ ls.getD i 0 ∧ ls.getD i 0 < 9223372036854775808 := by
        have hl : i < ls.length := by have := HR.out.1.1; omega
        rw [List.getD_eq_getElem?_getD, List.getElem?_eq_getElem hl]
        exact HW.out _ (List.getElem_mem hl)
      have HT1 := Aside0.mk (HXI.out i hlt)
      have htl : (xs.take i).length = i := by rw [List.length_take]; omega
      obtain ⟨ys, hys⟩ : ∃ ys, xs.take i = ys := ⟨_, rfl⟩
      rw [hys] at HLP htl HT1
      obtain ⟨x, hx⟩ : ∃ x, ls.getD i 0 = x := ⟨_, rfl⟩
      rw [hx] at hcw hbd HT1
      have HCW := Aside0.mk hcw
      have HBD := Aside0.mk hbd
      have HTL := Aside0.mk htl
      clear hys hx hc hcw hbd htl
      go_wp2_with fail
      have HBB := Aside0.mk (below_drew (Below.refl wr.heap.size wr))
      refine start_ (n := 11) (S := fun w' => Below wr.heap.size wr w') (ds := [8, 10]) #[false, false, false, false, false, false, false, false, false, false, false] (by kernel_rfl) rfl rfl HBB.out (fun hHeld => ?_); refine with_tabW tab5 bits5 (fun HT_ HW_ => ?_)
      generalize wr.drew = wd at HBB hHeld ⊢
      refine pure_ (i := 0) (N := (some 39)) (v := ?_) (a' := ?_) #[true, false, false, false, false, false, false, false, false, false, false] rfl rfl (any_of HT_.out (by kernel_rfl)) (fun _ _ _ h => h) (Or.inl ⟨by rfl, ?_⟩) ?_ ?_
      rotate_left; (intro w'; go_simp; with_reducible rfl)
      rotate_left; (simp only [Act.put, List.setIfInBounds_toArray, List.set_cons_zero, List.set_cons_succ, i64_w, i32_w]; rfl)
      refine pure_ (i := 2) (N := (some 41)) (v := ?_) (a' := ?_) #[true, false, true, false, false, false, false, false, false, false, false] rfl rfl (any_of HT_.out (by kernel_rfl)) (fun _ _ _ h => h) (Or.inl ⟨by rfl, ?_⟩) ?_ ?_
      rotate_left; (intro w'; go_simp; with_reducible rfl)
      rotate_left; (simp only [Act.put, List.setIfInBounds_toArray, List.set_cons_zero, List.set_cons_succ, i64_w, i32_w]; rfl)
      refine pure_ (i := 3) (N := (some 42)) (v := ?_) (a' := ?_) #[true, false, true, true, false, false, false, false, false, false, false] rfl rfl (any_of HT_.out (by kernel_rfl)) (fun _ _ _ h => h) (Or.inl ⟨by rfl, ?_⟩) ?_ ?_
      rotate_left; (intro w'; go_simp; with_reducible rfl)
      rotate_left; (simp only [Act.put, List.setIfInBounds_toArray, List.set_cons_zero, List.set_cons_succ, i64_w, i32_w]; rfl)
      refine pure_ (i := 4) (N := (some 43)) (v := ?_) (a' := ?_) #[true, false, true, true, true, false, false, false, false, false, false] rfl rfl (any_of HT_.out (by kernel_rfl)) (fun _ _ _ h => h) (Or.inl ⟨by rfl, ?_⟩) ?_ ?_
      rotate_left; (intro w'; go_simp; with_reducible rfl)
      rotate_left; (simp only [Act.put, List.setIfInBounds_toArray, List.set_cons_zero, List.set_cons_succ, i64_w, i32_w]; rfl)
      refine take_ (i := 1) (N := (some 40)) (v := ?_) (a' := ?_) #[true, true, true, true, true, false, false, false, false, false, false] rfl rfl (take_ofW HT_.out HW_.out (by kernel_rfl)) (fun _ _ _ h => h) (Or.inl ⟨by rfl, ?_⟩) hHeld ?_ ?_
      rotate_left; (intro w' hs; have s4 := (blk_cell (HLP.out.below hs).2.2.2.2.1 4).trans rfl; go_simp; with_reducible rfl)
      rotate_left; (simp only [Act.put, List.setIfInBounds_toArray, List.set_cons_zero, List.set_cons_succ, i64_w, i32_w]; rfl)
      refine take_ (i := 5) (N := (some 44)) (v := ?_) (a' := ?_) #[true, true, true, true, true, true, false, false, false, false, false] rfl rfl (take_ofW HT_.out HW_.out (by kernel_rfl)) (fun _ _ _ h => h) (Or.inl ⟨by rfl, ?_⟩) hHeld ?_ ?_
      rotate_left; (intro w' hs; have s4 := pw_cell_below hs HCW.out; go_simp; with_reducible rfl)
      rotate_left; (simp only [Act.put, List.setIfInBounds_toArray, List.set_cons_zero, List.set_cons_succ, i64_w, i32_w]; rfl)
      refine one_ (i := 6) (N := (some 45)) #[true, true, true, true, true, true, true, false, false, false, false] rfl rfl (one_of HT_.out (by kernel_rfl)) (by decide) (fun K hK => ?_)
      refine goes_ Try.func32 (by kernel_rfl) rfl #[.int .i64 x] (by rfl) rfl rfl (by (try simp only [List.map_toArray, List.map_cons, List.map_nil]); first | done | rfl) ?_
      refine (i1_any _ x HBD.out.1 HBD.out.2).mono ?_
      rintro e wn ⟨u, rfl, hR, hb⟩
      refine ⟨_, rfl, ?_⟩
      obtain ⟨U, uc, rfl⟩ := Kd.R_slice hR
      have HU := Aside0.mk (show Kd.R (Kd.int .u32) 123 wn wr.heap.size (fun _ => True) (.slice U (absL x).length uc) (absL x) from Kd.R_mono (Kd.R_lower hR HBB.out.size) (fun _ _ => trivial))
      clear hR
      have n0_ := Aside0.mk (below_step HBB.out hb)
      clear HBB hHeld hb
      have HBB := n0_
      clear n0_
      refine hK.out _ _ HBB.out (fun hHeld => ?_)
      clear hK K
      refine norm_ (a' := ?_) ?_ ?_
      rotate_left
      · show Act.put _ (some 45) _ = _
        simp only [Act.put, List.setIfInBounds_toArray, List.set_cons_zero, List.set_cons_succ, i64_w, i32_w]
        rfl
      refine one_ (i := 7) (N := (some 46)) #[true, true, true, true, true, true, true, true, false, false, false] rfl rfl (one_of HT_.out (by kernel_rfl)) (by decide) (fun K hK => ?_)
      refine value_ (w1 := ?_) (v := ?_) (by rfl) rfl ?_ ?_
      rotate_left 2
      · go_simp
        constructor
        · rfl
        · rfl
      refine hK.out _ _ (below_alloc HBB.out _) (fun hHeld => ?_)
      clear hK K
      refine norm_ (a' := ?_) ?_ ?_
      rotate_left
      · show Act.put _ (some 46) _ = _
        simp only [Act.put, List.setIfInBounds_toArray, List.set_cons_zero, List.set_cons_succ, i64_w, i32_w]
        rfl
      refine last_ (i := 8) (N := (some 47)) #[true, true, true, true, true, true, true, true, true, false, false] rfl rfl (one_of HT_.out (by kernel_rfl)) (by decide) (fun K hK => ?_)
      refine Kd.R_append_step kF (w0 := w) w.heap.size (by rfl) (.tmp 40) (.tmp 46) 43 45 (.agg #[.int .i64 0, .bool false, .slice none 0 0, .string ⟨#[]⟩, .int .i64 0, .slice none 0 0]) 88 rfl hu43 info45 rfl (by decide) (by omega) (.slice A ys.length c) ys (intT x) [.int .i64 1, .bool (decide (x < 0)), .slice U (absL x).length uc, .string ⟨#[]⟩, .int .i64 0, .slice none 0 0] (fun _ => True) (fun k_ => wr.heap.size ≤ k_) rfl rfl ?aP ?aK (fun _ _ => trivial) ?aO ?aB ?aS ?aL ?_
      (case aP => exact kF_mk (intT x) (Kd.R_lower (Kd.R_mono (Kd.R_bound HU.out) (fun _ hk => hk.2.1)) HLP.out.1.size) rfl)
      (case aK => exact fun k_ hk => ⟨trivial, fun e => by have := own_lt HLP.out.2.2.2.2.2.2.choose_spec.1 k_ e.symm; omega⟩)
      (case aO => exact Kd.R_below HLP.out.2.2.2.2.2 HBB.out)
      (case aB => exact below_step HLP.out.1 HBB.out)
      (case aS => exact Nat.le_trans HLP.out.1.size HBB.out.size)
      (case aL => have := HTL.out; omega)
      intro v1 w1 ho hb1 hg hat
      obtain ⟨A1, cc1, rfl⟩ := Kd.R_slice ho
      have HM := Aside0.mk ((HLP.out.below HBB.out).more hg hb1 ho)
      have hs30 : w1.cell? ⟨gm, 4, none⟩ = some (.slice A ys.length c) := (blk_cell ((hg.block gm (blk_lt (HLP.out.below HBB.out).2.2.2.2.1) (HLP.out.below HBB.out).ne.2).trans (HLP.out.below HBB.out).2.2.2.2.1) 4).trans rfl
      have hfs30 := blk_frozen ((hg.block gm (blk_lt (HLP.out.below HBB.out).2.2.2.2.1) (HLP.out.below HBB.out).ne.2).trans (HLP.out.below HBB.out).2.2.2.2.1) 4
      clear ho hb1 hg hat HBB hHeld
      refine hK.out _ _ ?_
      clear hK K
      refine norm_ (a' := ?_) ?_ ?_
      rotate_left
      · show Act.put _ (some 47) _ = _
        simp only [Act.put, List.setIfInBounds_toArray, List.set_cons_zero, List.set_cons_succ, i64_w, i32_w]
        rfl
      refine pure_ (i := 9) (N := (some 48)) (v := ?_) (a' := ?_) #[true, true, true, true, true, true, true, true, true, true, false] rfl rfl (any_of HT_.out (by kernel_rfl)) (fun _ _ _ h => h) (Or.inl ⟨by rfl, ?_⟩) ?_ ?_
      rotate_left; (intro w'; go_simp; with_reducible rfl)
      rotate_left; (simp only [Act.put, List.setIfInBounds_toArray, List.set_cons_zero, List.set_cons_succ, i64_w, i32_w]; rfl)
      refine last_ (i := 10) (N := none) #[true, true, true, true, true, true, true, true, true, true, true] rfl rfl (one_of HT_.out (by kernel_rfl)) (by decide) (fun K hK => ?_)
      refine skip_ (w1 := ?_) (by rfl) rfl ?_ ?_
      rotate_left
      · go_simp
        rfl
      refine hK.out _ _ ?_
      clear hK K
      refine done_ (done_of HT_.out (by kernel_rfl)) ?_
      clear HT_ HW_ hs30 hfs30 HU HCW HBD
      go_wp2_with fail
      go_roundg (12 - (i + 1))
      case measure => omega
      case rel => exact ⟨i + 1, A1, cc1, by go_num, by omega, rfl, ⟨by rw [HT1.out]; have q := HM.out; rw [show (ys ++ [intT x]).length = ys.length + 1 by simp] at q; exact q⟩⟩
    · obtain rfl : i = xs.length := by omega
      rw [List.take_length] at HLP
      clear hlt hi
      have HDR := Aside0.mk hxe
      obtain ⟨inner, hreps, hcells⟩ := row_cells HLP.out.2.2.2.2.2
      have hin : inner.length = xs.length * 6 := hreps.1
      have HX := Aside0.mk (fun (cs : Array Value) (h : ∀ j, j < 96 → cs[j]? = (splice (regs0 (-1) 0) 0 inner)[j]?) => says_new sticks_liesF (fun x cs h => liesF_of h) hreps (by omega) (-1) 0 cs h)
      have HNEW := Aside0.mk (new_calls wr 0 A xs.length c inner (by omega) hin (fun h => (hcells h).imp fun ad q => ⟨q.1, q.2.2⟩) (Go.Proofs.YthdmacdeefohkaaW.PrintWords.Kd.reps_one hreps (by omega) (fun p c h => kF.K_one (kF.K_of_M h))))
      have HHI := Aside0.mk hin
      have HONE := Aside0.mk (Go.Proofs.YthdmacdeefohkaaW.PrintWords.Kd.reps_one hreps (by omega) (fun p c h => kF.K_one (kF.K_of_M h)))
      obtain ⟨V, hV⟩ : ∃ V, wr = V := ⟨_, rfl⟩
      rw [hV] at HLP HX HNEW
      clear hreps hcells hin
      have m4 : V.cell? ⟨gm, 4, none⟩ = some (.slice A xs.length c) := (blk_cell HLP.out.2.2.2.2.1 4).trans rfl
      have hz : Try.zeroCells70.size = 101 := rfl
      obtain ⟨Z, hZ⟩ : ∃ Z, Try.zeroCells70 = Z := ⟨_, rfl⟩
      rw [hZ] at hz
      have hl0 : (regs0 (-1) 0).length = 101 := rfl
      obtain ⟨R, hR⟩ : ∃ R, splice (regs0 (-1) 0) 0 inner = R := ⟨_, rfl⟩
      rw [hR] at HX HNEW
      have hl1 : R.length = 101 := by rw [← hR, length_splice _ _ _ (by have := HHI.out; omega)]; exact hl0
      have hge : ∀ j, 96 ≤ j → R[j]? = (regs0 (-1) 0)[j]? := fun j hj => by rw [← hR]; exact splice_out _ _ _ (by have := HHI.out; omega)
      have h11 : R.toArray.all (·.oneCell') = true := by
        have h10 : (regs0 (-1) 0).toArray.all (·.oneCell') = true := by rw [List.all_toArray]; rfl
        rw [← hR]
        simp only [List.all_toArray, List.all_eq_true] at h10 ⊢
        intro v hv
        simp only [splice, List.take_zero, List.nil_append, List.mem_append] at hv
        rcases hv with hv | hv
        · exact HONE.out v hv
        · exact h10 v (List.mem_of_mem_drop hv)
      have HL1 := Aside0.mk hl1
      have HGE := Aside0.mk hge
      have H11 := Aside0.mk h11
      have HZS := Aside0.mk hz
      have HS0 := Aside0.mk (show (Try.prog.info? 70).map (·.size) = some R.toArray.size by rw [List.size_toArray, hl1]; kernel_rfl)
      have HZ0 := Aside0.mk (show Z.size = R.toArray.size from hz.trans (by rw [List.size_toArray, hl1]))
      clear hz hl0 hl1 hge h11 hR
      rcases hxe with hxe | ⟨hxe, hxf⟩
      all_goals
        (first
          | (have c1 : ¬ (xs.length : Int) < (len : Int) := by omega)
          | (have c1 : (xs.length : Int) < (len : Int) := by omega
             have c2 : ¬ (xs.length : Int) < 10 := by omega))
        clear hxe
        rw [hV]
        go_wp2_with fail
        refine HNEW.out.mono ?_
        rintro e wa ⟨rfl, hb⟩
        have HB0 := Aside0.mk hb
        obtain ⟨gr, hgr⟩ : ∃ gr, wa.heap.size = gr := ⟨_, rfl⟩
        obtain ⟨W1, hW1⟩ : ∃ W1, wa.alloc (.cells Z 70) = W1 := ⟨_, rfl⟩
        obtain ⟨W2, hW2⟩ : ∃ W2, W1.setRow gr R.toArray = W2 := ⟨_, rfl⟩
        have b1 : W1.heap[gr]? = some (.cells Z 70 (0, 0)) := by rw [← hW1, ← hgr]; exact heap_alloc_new _ _
        have b2 : W2.heap[gr]? = some (.cells R.toArray 70 (0, 0)) := by rw [← hW2]; exact setRow_heap W1 gr _ _ _ _ b1
        have hgV : V.heap.size ≤ gr := by have := HB0.out.size; omega
        have hbw : Below V.heap.size V W2 := by
          rw [← hW2, ← hW1]
          exact below_setRow (below_alloc HB0.out _) hgV _
        obtain ⟨gf, hgf⟩ : ∃ gf, W2.heap.size = gf := ⟨_, rfl⟩
        obtain ⟨W3, hW3⟩ : ∃ W3, W2.alloc (.cells #[.int .i64 3, .slice A xs.length c] 73) = W3 := ⟨_, rfl⟩
        have b3 : W3.heap[gf]? = some (.cells #[.int .i64 3, .slice A xs.length c] 73 (0, 0)) := by rw [← hW3, ← hgf]; exact heap_alloc_new _ _
        have hlt : gr < gf := by rw [← hgf]; exact blk_lt b2
        have b3r : W3.heap[gr]? = some (.cells R.toArray 70 (0, 0)) := by rw [← hW3]; exact ((below_alloc (Below.refl _ _) _).block gr (by omega)).trans b2
        have hbw3 : Below V.heap.size V W3 := by rw [← hW3]; exact below_alloc hbw _
        have m4b : W2.cell? ⟨gm, 4, none⟩ = some (.slice A xs.length c) := pw_cell_below hbw m4
        have r96 : W3.cell? ⟨gr, 96, none⟩ = some (.slice none 0 0) := (blk_cell b3r 96).trans ((by simp : R.toArray[96]? = R[96]?).trans (HGE.out 96 (by omega)))
        have z96 := blk_frozen b3r 96
        have HBL := Aside0.mk b1
        have HB3 := Aside0.mk (show Below V.heap.size V W3 ∧ V.heap.size ≤ gr ∧ V.heap.size ≤ gf ∧ gr < gf from ⟨hbw3, hgV, by omega, hlt⟩)
        have HF3 := Aside0.mk b3
        have HR3 := Aside0.mk b3r
        clear b1 b2 b3 b3r hbw hbw3 hlt hgV hb HB0 m4
        go_wp2_with ((with_reducible refine wpList_store_row (o := ⟨none, _, _, _, _, _⟩) rfl 70 (.tmp 9) (.tmp 51) rfl gr R.toArray ?_ ?_ 70 Z HBL.out HS0.out HZ0.out H11.out ?_); rfl; rfl; rw [hW2])
        refine (place_calls n 12 _ (by omega) (by omega)).mono ?_
        rintro e w4 ⟨rfl, nd, rfl⟩
        go_wp2_with fail
        refine (place_calls k 288230376151711744 _ (by omega) (by omega)).mono ?_
        rintro e w5 ⟨rfl, nd2, rfl⟩
        obtain ⟨i, hi⟩ : ∃ i : Nat, n % 12 = (i : Int) := ⟨(n % 12).toNat, by omega⟩
        obtain ⟨v, hv⟩ : ∃ v : Int, k % 288230376151711744 = v := ⟨_, rfl⟩
        have hv0 : 0 ≤ v ∧ v < 288230376151711744 := by omega
        rw [hi, hv]
        have HV0 := Aside0.mk hv0
        have HI12 := Aside0.mk (show i < 12 by omega)
        go_wp2_with fail
        obtain ⟨CS1, hCS1⟩ : ∃ CS1, R.toArray.setIfInBounds 96 (.slice (some ⟨gf, 0, none⟩) 1 1) = CS1 := ⟨_, rfl⟩
        obtain ⟨Y10, hY10⟩ : ∃ Y10, (W3.setCell ⟨gr, 96, none⟩ (.slice (some ⟨gf, 0, none⟩) 1 1)).drewN (nd + nd2) = Y10 := ⟨_, rfl⟩
        have HLS := Aside0.mk (show Ls V Y10 gr gf CS1 #[.int .i64 3, .slice A xs.length c] from by
          rw [← hY10]
          exact ⟨pw_below_drewN (HB3.out.1.setCell (by exact HB3.out.2.1) _) _, blk_put HR3.out 96 _ hCS1, (Below.heap_setCell W3 ⟨gr, 96, none⟩ _ gf (by have := HB3.out.2.2.2; show gf ≠ gr; omega)).trans HF3.out, HB3.out.2.1, HB3.out.2.2.1⟩)
        have hs1 : CS1.size = 101 := by rw [← hCS1, Array.size_setIfInBounds, List.size_toArray]; exact HL1.out
        have h96 : CS1[96]? = some (.slice (some ⟨gf, 0, none⟩) 1 1) := by rw [← hCS1, Array.getElem?_setIfInBounds_self]; simp [HL1.out]
        have h97 : CS1[97]? = some (.bool false) := by rw [← hCS1, Array.getElem?_setIfInBounds_ne (by omega)]; exact (by simp : R.toArray[97]? = R[97]?).trans (HGE.out 97 (by omega))
        have hjs : ∀ j, j < 96 → CS1[j]? = R[j]? := fun j hj => by rw [← hCS1, Array.getElem?_setIfInBounds_ne (by omega)]; simp
        have HSX := Aside0.mk (HX.out CS1 hjs)
        have HSZ := Aside0.mk (show (Try.prog.info? 70).map (·.size) = some CS1.size by rw [hs1]; kernel_rfl)
        have HS1 := Aside0.mk hs1
        have H96 := Aside0.mk h96
        have H97 := Aside0.mk h97
        have HJS := Aside0.mk hjs
        have HMY := Aside0.mk ((HLS.out.b.block gm (blk_lt HLP.out.2.2.2.2.1)).trans HLP.out.2.2.2.2.1)
        rw [hY10]
        clear hs1 h96 h97 hjs hY10 hv hi hW1 hW2 hW3 r96 z96 m4b HB3 HF3 HR3 hCS1 hv0
        obtain ⟨y, hy⟩ : ∃ y, xs.getD i z45 = y := ⟨_, rfl⟩
        obtain ⟨t, ht⟩ : ∃ t, decide (i < xs.length) = t := ⟨_, rfl⟩
        have hyi : t = true → i < xs.length ∧ y = intT (ls.getD i 0) := by
          intro h1
          have h2 : i < xs.length := by rw [h1] at ht; exact of_decide_eq_true ht
          refine ⟨h2, ?_⟩
          rw [← hy, List.getD_eq_getElem?_getD, List.getElem?_eq_getElem h2]
          have h3 : i < (ls.take 10).length := by have q := h2; rw [← HXS.out] at q; simpa using q
          have h4 : i < ls.length := by simp at h3; omega
          have q : xs[i]? = some (intT ls[i]) := by
            rw [← HXS.out, List.getElem?_map, List.getElem?_take, if_pos (by simp at h3; omega), List.getElem?_eq_getElem h4]
            rfl
          rw [List.getElem?_eq_getElem h2] at q
          injection q with q
          rw [Option.getD_some, q, List.getD_eq_getElem?_getD, List.getElem?_eq_getElem h4]
          rfl
        have hyn : t = false → y = z45 := by
          intro h1
          rw [h1] at ht
          have := of_decide_eq_false ht
          rw [← hy]
          exact getD_out _ _ _ (by omega)
        have hyT : srcT y = y ∧ plainB y = t := by
          cases t with
          | true => rw [(hyi rfl).2]; exact ⟨rfl, rfl⟩
          | false => rw [hyn rfl]; exact ⟨rfl, rfl⟩
        have HYI := Aside0.mk hyi
        have HYT := Aside0.mk hyT
        have HY := Aside0.mk hy
        have HT := Aside0.mk ht
        have HROW := Aside0.mk HLP.out.2.2.2.2.2
        have HXL := Aside0.mk hxl
        have HSS : Aside0 (∀ m s, [(⟨#[97]⟩ : ByteArray), ⟨#[98]⟩, ⟨#[99]⟩][m]? = some s → V.cell? ((⟨g0, 0, none⟩ : Addr).add m) = some (.string s)) := by
          refine ⟨fun m s h => ?_⟩
          rw [add_plain, blk_cell HLP.out.2.2.2.1]
          match m, h with
          | 0, h => injection h with h; subst h; rfl
          | 1, h => injection h with h; subst h; rfl
          | 2, h => injection h with h; subst h; rfl
          | m + 3, h => simp at h
        obtain ⟨r, hr⟩ : ∃ r : Nat, (i : Int).tmod 5 = (r : Int) := ⟨i % 5, by rw [Int.tmod_eq_emod_of_nonneg (by omega)]; omega⟩
        clear hyi hyn hyT hy ht hxl
        refine reg10 (u7 := undef) (u9 := undef) (u10 := undef) (v := 0) (V := V) (gf := gf) (CS := CS1) (y := y) (b := t) (fun _ _ d _ _ h => by cases d <;> exact h) HLS.out HMY.out HS1.out rfl (fun W hb => by have q := src_X sticks_liesF W CS1 #[.slice (some ⟨g0, 0, none⟩) 3 3, .slice none 0 0, .slice none 0 0, .slice none 0 0, .slice A xs.length c, .slice none 0 0] (.slice none 0 0) HS1.out rfl xs (HSX.out.below sticks_liesF (below_step HLS.out.b hb)) i; rw [HY.out, HYT.out.1, HYT.out.2] at q; exact q) ?_
        intro A2_10 c2_10 A5_10 c5_10 g12 Y11 hb hge hbx
        have HMY := Aside0.mk ((hb.block gm (blk_lt HMY.out)).trans HMY.out)
        have HLS := Aside0.mk (HLS.out.below hb)
        have Hg12 := Aside0.mk hbx
        clear hb hge hbx
        go_wp2_with fail
        refine reg11 (u7 := undef) (u9 := undef) (u10 := undef) (v := 0) (V := V) (gf := gf) (CS := CS1) (y := y) (b := t) (fun _ _ d _ _ h => by cases d <;> exact h) HLS.out HMY.out HS1.out rfl (fun W hb => by have q := src_L sticks_liesF W CS1 #[.slice (some ⟨g0, 0, none⟩) 3 3, .slice none 0 0, .slice none 0 0, .slice none 0 0, .slice A xs.length c, .slice none 0 0] (.slice none 0 0) HS1.out rfl A xs.length c rfl (by have := HXL.out; omega) (xs.getD i z45) i (at_rowF (Kd.R_below HROW.out (below_step HLS.out.b hb)) i); rw [HY.out, HYT.out.1, HYT.out.2] at q; exact q) ?_
        intro A2_11 c2_11 A5_11 c5_11 g14 Y12 hb hge hbx
        have HMY := Aside0.mk ((hb.block gm (blk_lt HMY.out)).trans HMY.out)
        have HLS := Aside0.mk (HLS.out.below hb)
        have Hg12 := Aside0.mk (Hg12.out.below hb)
        have Hg14 := Aside0.mk hbx
        clear hb hge hbx
        go_wp2_with fail
        refine reg12 (u7 := undef) (u9 := undef) (u10 := undef) (v := 0) (V := V) (gf := gf) (CS := CS1) (y := z45) (b := false) (fun _ _ d _ _ h => by cases d <;> exact h) HLS.out HMY.out HS1.out rfl (fun W hb => src_Y sticks_liesF W CS1 #[.slice (some ⟨g0, 0, none⟩) 3 3, .slice none 0 0, .slice none 0 0, .slice none 0 0, .slice A xs.length c, .slice none 0 0] (.slice none 0 0) HS1.out rfl (some ⟨gf, 0, none⟩) 1 1 false none 0 0 H96.out H97.out (by omega) (by omega) (.inl ⟨.inl rfl, rfl⟩) z45 i ⟨none, 0, none, 0, .inr ⟨.inr ⟨by omega, by omega⟩, rfl, rfl, rfl, rfl, rfl⟩, sticks_liesF.nil W 0 ⟨#[]⟩⟩) ?_
        intro A2_12 c2_12 A5_12 c5_12 g16 Y13 hb hge hbx
        have HMY := Aside0.mk ((hb.block gm (blk_lt HMY.out)).trans HMY.out)
        have HLS := Aside0.mk (HLS.out.below hb)
        have Hg12 := Aside0.mk (Hg12.out.below hb)
        have Hg14 := Aside0.mk (Hg14.out.below hb)
        have Hg16 := Aside0.mk hbx
        clear hb hge hbx
        have t97 : Y13.cell? ⟨gr, 97, none⟩ = some (.bool false) := (blk_cell HLS.out.r 97).trans H97.out
        have z97 := blk_frozen HLS.out.r 97
        go_wp2_with fail
        clear t97 z97
        obtain ⟨CS2, hCS2⟩ : ∃ CS2, CS1.setIfInBounds 97 (.bool true) = CS2 := ⟨_, rfl⟩
        obtain ⟨Y14, hY14⟩ : ∃ Y14, Y13.setCell ⟨gr, 97, none⟩ (.bool true) = Y14 := ⟨_, rfl⟩
        have HLS2 := Aside0.mk (show Ls V Y14 gr gf CS2 #[.int .i64 3, .slice A xs.length c] from by
          rw [← hY14]
          exact ⟨HLS.out.b.setCell (by exact HLS.out.ger) _, blk_put HLS.out.r 97 _ hCS2, (Below.heap_setCell Y13 ⟨gr, 97, none⟩ _ gf (fun e => by have h1 := HLS.out.f; rw [e, HLS.out.r] at h1; injection h1 with h1; injection h1 with _ h1; exact absurd h1 (by decide))).trans HLS.out.f, HLS.out.ger, HLS.out.gef⟩)
        have HMY2 := Aside0.mk (show Y14.heap[gm]? = some (.cells #[.slice (some ⟨g0, 0, none⟩) 3 3, .slice none 0 0, .slice none 0 0, .slice none 0 0, .slice A xs.length c, .slice none 0 0] 66 (0, 0)) from by
          rw [← hY14]
          exact (Below.heap_setCell Y13 ⟨gr, 97, none⟩ _ gm (fun e => by have h1 := HMY.out; rw [e, HLS.out.r] at h1; injection h1 with h1; injection h1 with _ h1; exact absurd h1 (by decide))).trans HMY.out)
        have Hg12 := Aside0.mk (show BoxF Y14 g12 y A2_10 c2_10 A5_10 c5_10 from by rw [← hY14]; exact BoxF.set_ Hg12.out HLS.out.r 97 _)
        have Hg14 := Aside0.mk (show BoxF Y14 g14 y A2_11 c2_11 A5_11 c5_11 from by rw [← hY14]; exact BoxF.set_ Hg14.out HLS.out.r 97 _)
        have Hg16 := Aside0.mk (show BoxF Y14 g16 z45 A2_12 c2_12 A5_12 c5_12 from by rw [← hY14]; exact BoxF.set_ Hg16.out HLS.out.r 97 _)
        have hs2 : CS2.size = 101 := by rw [← hCS2, Array.size_setIfInBounds]; exact HS1.out
        have h96b : CS2[96]? = some (.slice (some ⟨gf, 0, none⟩) 1 1) := by rw [← hCS2, Array.getElem?_setIfInBounds_ne (by omega)]; exact H96.out
        have h97b : CS2[97]? = some (.bool true) := by rw [← hCS2, Array.getElem?_setIfInBounds_self]; simp [HS1.out]
        have HS2 := Aside0.mk hs2
        have H96B := Aside0.mk h96b
        have H97B := Aside0.mk h97b
        have HLS := HLS2
        have HMY := HMY2
        rw [hY14]
        clear hs2 h96b h97b hCS2 hY14 HLS2 HMY2
        refine reg14 (u7 := undef) (u9 := undef) (u10 := undef) (v := 0) (V := V) (gf := gf) (CS := CS2) (y := y) (b := t) (fun _ _ d _ _ h => by cases d <;> exact h) HLS.out HMY.out HS2.out rfl (fun W hb => by have q := src_Y sticks_liesF W CS2 #[.slice (some ⟨g0, 0, none⟩) 3 3, .slice none 0 0, .slice none 0 0, .slice none 0 0, .slice A xs.length c, .slice none 0 0] (.slice none 0 0) HS2.out rfl (some ⟨gf, 0, none⟩) 1 1 true A xs.length c H96B.out H97B.out (by omega) (by have := HXL.out; omega) (.inr ⟨rfl, by omega, _, rfl, pw_cell_below hb ((blk_cell HLS.out.f 1).trans rfl)⟩) (xs.getD i z45) i (at_rowF (Kd.R_below HROW.out (below_step HLS.out.b hb)) i); rw [HY.out, HYT.out.1, HYT.out.2] at q; exact q) ?_
        intro A2_14 c2_14 A5_14 c5_14 g18 Y15 hb hge hbx
        have HMY := Aside0.mk ((hb.block gm (blk_lt HMY.out)).trans HMY.out)
        have HLS := Aside0.mk (HLS.out.below hb)
        have Hg12 := Aside0.mk (Hg12.out.below hb)
        have Hg14 := Aside0.mk (Hg14.out.below hb)
        have Hg16 := Aside0.mk (Hg16.out.below hb)
        have Hg18 := Aside0.mk hbx
        clear hb hge hbx
        go_wp2_with fail
        refine reg15 (u7 := undef) (u9 := undef) (u11 := undef) (i := 0) (V := V) (gf := gf) (CS := CS2) (y := (intT (-v))) (b := true) (fun _ _ d _ _ h => by cases d <;> exact h) HLS.out HMY.out HS2.out rfl HV0.out (fun W hb => src_int W CS2 #[.slice (some ⟨g0, 0, none⟩) 3 3, .slice none 0 0, .slice none 0 0, .slice none 0 0, .slice A xs.length c, .slice none 0 0] (.slice none 0 0) HS2.out rfl (-v) (by have := HV0.out; omega) (by have := HV0.out; omega)) ?_
        intro A2_15 c2_15 A5_15 c5_15 g20 Y16 hb hge hbx
        have HMY := Aside0.mk ((hb.block gm (blk_lt HMY.out)).trans HMY.out)
        have HLS := Aside0.mk (HLS.out.below hb)
        have Hg12 := Aside0.mk (Hg12.out.below hb)
        have Hg14 := Aside0.mk (Hg14.out.below hb)
        have Hg16 := Aside0.mk (Hg16.out.below hb)
        have Hg18 := Aside0.mk (Hg18.out.below hb)
        have Hg20 := Aside0.mk hbx
        clear hb hge hbx
        go_wp2_with fail
        refine reg16 (u7 := undef) (u9 := undef) (u10 := undef) (V := V) (gf := gf) (CS := CS2) (y := (atomT [(⟨#[97]⟩ : ByteArray), ⟨#[98]⟩, ⟨#[99]⟩] r)) (b := (decide (r ≤ 3))) (fun _ _ d _ _ h => by cases d <;> exact h) HLS.out HMY.out HS2.out rfl hr (fun W hb => src_A sticks_liesF W CS2 #[.slice (some ⟨g0, 0, none⟩) 3 3, .slice none 0 0, .slice none 0 0, .slice none 0 0, .slice A xs.length c, .slice none 0 0] (.slice none 0 0) HS2.out rfl ⟨g0, 0, none⟩ 3 3 rfl (by omega) [(⟨#[97]⟩ : ByteArray), ⟨#[98]⟩, ⟨#[99]⟩] rfl (fun m s h => pw_cell_below (below_step HLS.out.b hb) (HSS.out m s h)) r) ?_
        intro A2_16 c2_16 A5_16 c5_16 g22 Y17 hb hge hbx
        have HMY := Aside0.mk ((hb.block gm (blk_lt HMY.out)).trans HMY.out)
        have HLS := Aside0.mk (HLS.out.below hb)
        have Hg12 := Aside0.mk (Hg12.out.below hb)
        have Hg14 := Aside0.mk (Hg14.out.below hb)
        have Hg16 := Aside0.mk (Hg16.out.below hb)
        have Hg18 := Aside0.mk (Hg18.out.below hb)
        have Hg20 := Aside0.mk (Hg20.out.below hb)
        have Hg22 := Aside0.mk hbx
        clear hb hge hbx
        go_wp2_with fail
        refine reg17 (u7 := undef) (u9 := undef) (i := 0) (v := 0) (V := V) (gf := gf) (CS := CS2) (y := (atomT [(⟨#[97]⟩ : ByteArray), ⟨#[98]⟩, ⟨#[99]⟩] 0)) (b := true) (fun _ _ d _ _ h => by cases d <;> exact h) HLS.out HMY.out HS2.out rfl (fun W hb => src_A sticks_liesF W CS2 #[.slice (some ⟨g0, 0, none⟩) 3 3, .slice none 0 0, .slice none 0 0, .slice none 0 0, .slice A xs.length c, .slice none 0 0] (.slice none 0 0) HS2.out rfl ⟨g0, 0, none⟩ 3 3 rfl (by omega) [(⟨#[97]⟩ : ByteArray), ⟨#[98]⟩, ⟨#[99]⟩] rfl (fun m s h => pw_cell_below (below_step HLS.out.b hb) (HSS.out m s h)) 0) ?_
        intro A2_17 c2_17 A5_17 c5_17 g24 Y18 hb hge hbx
        have HMY := Aside0.mk ((hb.block gm (blk_lt HMY.out)).trans HMY.out)
        have HLS := Aside0.mk (HLS.out.below hb)
        have Hg12 := Aside0.mk (Hg12.out.below hb)
        have Hg14 := Aside0.mk (Hg14.out.below hb)
        have Hg16 := Aside0.mk (Hg16.out.below hb)
        have Hg18 := Aside0.mk (Hg18.out.below hb)
        have Hg20 := Aside0.mk (Hg20.out.below hb)
        have Hg22 := Aside0.mk (Hg22.out.below hb)
        have Hg24 := Aside0.mk hbx
        clear hb hge hbx
        have m4c : Y18.cell? ⟨gm, 4, none⟩ = some (.slice A xs.length c) := (blk_cell HMY.out 4).trans rfl
        go_wp2_with fail
        rw [HT.out]
        clear m4c
        have HD3 := Aside0.mk (show decide (r ≤ 3) = decide ((r : Int) ≤ 3) by by_cases h : r ≤ 3 <;> simp [h] <;> omega)
        rw [HD3.out]
        refine reg19 (u13 := undef) (u15 := undef) (u17 := undef) (u19 := undef) (u21 := undef) (u23 := undef) (u26 := undef) (u10 := undef) (u11 := undef) (u20 := undef) (u24 := undef) (fun _ _ d _ _ h => by cases d <;> exact h) hr HV0.out Hg20.out (s24 := ⟨#[]⟩) Hg24.out ?_
        intro x124 x125 x126 x127 x128 x129 x130 x131 x132 x133 x134 x135 x136 x137 x138 x139 x140 x141 x142 x143 x144 x145 x146 x147 x148 x149 x150 x151 x152 x153 x154 x155 x156 x157 x158 x159 x160 x161 x162 Y19 hb
        have HMY := Aside0.mk ((hb.block gm (blk_lt HMY.out)).trans HMY.out)
        have HLS := Aside0.mk (HLS.out.below hb)
        have Hg12 := Aside0.mk (Hg12.out.below hb)
        have Hg14 := Aside0.mk (Hg14.out.below hb)
        have Hg16 := Aside0.mk (Hg16.out.below hb)
        have Hg18 := Aside0.mk (Hg18.out.below hb)
        have Hg20 := Aside0.mk (Hg20.out.below hb)
        have Hg22 := Aside0.mk (Hg22.out.below hb)
        have Hg24 := Aside0.mk (Hg24.out.below hb)
        clear hb
        go_wp2_with fail
        have hcs3 : (r : Int) = 0 ∨ 3 < (r : Int) ∨ (0 < (r : Int) ∧ (r : Int) ≤ 3) := by omega
        rcases hcs3 with hc | hc | ⟨hc, hc2⟩
        · skip
          try rw [HD3.out]
          refine reg21a (u23 := undef) (u10 := undef) (u22 := undef) (u7 := undef) (s := ⟨#[]⟩) (g0 := 0) (B2 := none) (B5 := none) (d2 := 0) (d5 := 0) (fun _ _ d _ _ h => by cases d <;> exact h) hr hc ?_
          intro x164 x165 x166 x167 x168 x169 x170 x171 x172 x173 x174 x175 x176 x177 x178 x179 x180 x181 x182 x183 x184 x185 Y21 hb
          have HMY := Aside0.mk ((hb.block gm (blk_lt HMY.out)).trans HMY.out)
          have HLS := Aside0.mk (HLS.out.below hb)
          have Hg12 := Aside0.mk (Hg12.out.below hb)
          have Hg14 := Aside0.mk (Hg14.out.below hb)
          have Hg16 := Aside0.mk (Hg16.out.below hb)
          have Hg18 := Aside0.mk (Hg18.out.below hb)
          have Hg20 := Aside0.mk (Hg20.out.below hb)
          have Hg22 := Aside0.mk (Hg22.out.below hb)
          have Hg24 := Aside0.mk (Hg24.out.below hb)
          clear hb
          clear hc
          go_wp2_with fail
          cases t with
          | false =>
            refine reg23f (u26 := undef) (u12 := undef) (u14 := undef) (u18 := undef) (u7 := undef) (u10 := undef) (g12 := g12) (g14 := g14) (g18 := g18) (gm := gm) (fun _ _ d _ _ h => by cases d <;> exact h) ?_
            intro x187 x188 x189 x190 x191 x192 x193 x194 x195 x196 x197 x198 x199 x200 x201 x202 x203 x204 x205 x206 x207 x208 x209 x210 Y23 hb
            have HFIN := Aside0.mk (below_step (below_step HLP.out.1 HLS.out.b) hb)
            clear hb
            go_wp2_with fail
            go_ret
            first | exact ⟨rfl, HFIN.out⟩ | exact ⟨rfl, by rw [← hg0]; exact HFIN.out⟩
          | true =>
            obtain ⟨hlt, hyq⟩ := HYI.out rfl
            obtain ⟨l2, lc2, l5, lc5, hA, hL⟩ := at_rowF (Kd.R_below HROW.out HLS.out.b) i
            rw [HY.out] at hA hL
            rcases hA with ⟨m, ad, e1, e2, e3, e4⟩ | ⟨h1, h2⟩
            · obtain rfl : m = i := by omega
              have hm4 : Y21.cell? ⟨gm, 4, none⟩ = some (.slice (some ad) xs.length c) := by rw [← e3]; exact (blk_cell HMY.out 4).trans rfl
              have hself : relictlaw00_SameTerm.f 10 y.f0 y.f1.f0 y.f1.f1 y.f2 y.f3 y.f4 y.f0 y.f1.f0 y.f1.f1 y.f2 y.f3 y.f4 = some true := by rw [hyq]; exact same_self 1 _ _ (absL_len _) _ _
              refine reg23t (u26 := undef) (u12 := undef) (u14 := undef) (u18 := undef) (u7 := undef) (u10 := undef) (y := y) (fun _ _ d _ _ h => by cases d <;> exact h) e2 HXL.out hself Hg12.out Hg14.out Hg18.out hm4 hL e4 ?_
              clear hL e4 hm4 hself
              intro x187 x188 x189 x190 x191 x192 x193 x194 x195 x196 x197 x198 x199 x200 x201 x202 x203 x204 x205 x206 x207 x208 x209 x210 Y23 hb
              have HFIN := Aside0.mk (below_step (below_step HLP.out.1 HLS.out.b) hb)
              clear hb
              go_wp2_with fail
              go_ret
              first | exact ⟨rfl, HFIN.out⟩ | exact ⟨rfl, by rw [← hg0]; exact HFIN.out⟩
            · exfalso; omega
        · skip
          try rw [HD3.out]
          refine reg21b (u23 := undef) (u10 := undef) (u22 := undef) (u7 := undef) (s := ⟨#[]⟩) (g0 := 0) (B2 := none) (B5 := none) (d2 := 0) (d5 := 0) (fun _ _ d _ _ h => by cases d <;> exact h) hr hc ?_
          intro x164 x165 x166 x167 x168 x169 x170 x171 x172 x173 x174 x175 x176 x177 x178 x179 x180 x181 x182 x183 x184 x185 Y21 hb
          have HMY := Aside0.mk ((hb.block gm (blk_lt HMY.out)).trans HMY.out)
          have HLS := Aside0.mk (HLS.out.below hb)
          have Hg12 := Aside0.mk (Hg12.out.below hb)
          have Hg14 := Aside0.mk (Hg14.out.below hb)
          have Hg16 := Aside0.mk (Hg16.out.below hb)
          have Hg18 := Aside0.mk (Hg18.out.below hb)
          have Hg20 := Aside0.mk (Hg20.out.below hb)
          have Hg22 := Aside0.mk (Hg22.out.below hb)
          have Hg24 := Aside0.mk (Hg24.out.below hb)
          clear hb
          clear hc
          go_wp2_with fail
          cases t with
          | false =>
            refine reg23f (u26 := undef) (u12 := undef) (u14 := undef) (u18 := undef) (u7 := undef) (u10 := undef) (g12 := g12) (g14 := g14) (g18 := g18) (gm := gm) (fun _ _ d _ _ h => by cases d <;> exact h) ?_
            intro x187 x188 x189 x190 x191 x192 x193 x194 x195 x196 x197 x198 x199 x200 x201 x202 x203 x204 x205 x206 x207 x208 x209 x210 Y23 hb
            have HFIN := Aside0.mk (below_step (below_step HLP.out.1 HLS.out.b) hb)
            clear hb
            go_wp2_with fail
            go_ret
            first | exact ⟨rfl, HFIN.out⟩ | exact ⟨rfl, by rw [← hg0]; exact HFIN.out⟩
          | true =>
            obtain ⟨hlt, hyq⟩ := HYI.out rfl
            obtain ⟨l2, lc2, l5, lc5, hA, hL⟩ := at_rowF (Kd.R_below HROW.out HLS.out.b) i
            rw [HY.out] at hA hL
            rcases hA with ⟨m, ad, e1, e2, e3, e4⟩ | ⟨h1, h2⟩
            · obtain rfl : m = i := by omega
              have hm4 : Y21.cell? ⟨gm, 4, none⟩ = some (.slice (some ad) xs.length c) := by rw [← e3]; exact (blk_cell HMY.out 4).trans rfl
              have hself : relictlaw00_SameTerm.f 10 y.f0 y.f1.f0 y.f1.f1 y.f2 y.f3 y.f4 y.f0 y.f1.f0 y.f1.f1 y.f2 y.f3 y.f4 = some true := by rw [hyq]; exact same_self 1 _ _ (absL_len _) _ _
              refine reg23t (u26 := undef) (u12 := undef) (u14 := undef) (u18 := undef) (u7 := undef) (u10 := undef) (y := y) (fun _ _ d _ _ h => by cases d <;> exact h) e2 HXL.out hself Hg12.out Hg14.out Hg18.out hm4 hL e4 ?_
              clear hL e4 hm4 hself
              intro x187 x188 x189 x190 x191 x192 x193 x194 x195 x196 x197 x198 x199 x200 x201 x202 x203 x204 x205 x206 x207 x208 x209 x210 Y23 hb
              have HFIN := Aside0.mk (below_step (below_step HLP.out.1 HLS.out.b) hb)
              clear hb
              go_wp2_with fail
              go_ret
              first | exact ⟨rfl, HFIN.out⟩ | exact ⟨rfl, by rw [← hg0]; exact HFIN.out⟩
            · exfalso; omega
        · skip
          try rw [HD3.out]
          obtain ⟨s, hs⟩ : ∃ s, [(⟨#[97]⟩ : ByteArray), ⟨#[98]⟩, ⟨#[99]⟩].getD (r - 1) ⟨#[]⟩ = s := ⟨_, rfl⟩
          have hq : [(⟨#[97]⟩ : ByteArray), ⟨#[98]⟩, ⟨#[99]⟩][r - 1]? = some s := by rw [← hs, List.getD_eq_getElem?_getD, List.getElem?_eq_getElem (by simp; omega)]; rfl
          have hat : atomT [(⟨#[97]⟩ : ByteArray), ⟨#[98]⟩, ⟨#[99]⟩] r = ⟨2, ⟨false, []⟩, s, 0, []⟩ := by unfold atomT; rw [if_neg (by omega), if_pos (by simp; omega), hs]
          have hna : Y19.cell? ⟨g0, (r : Int).toNat - 1, none⟩ = some (.string s) := by
            have q := pw_cell_below HLS.out.b (HSS.out (r - 1) s hq)
            rw [add_plain] at q
            simpa using q
          have hm0 : Y19.cell? ⟨gm, 0, none⟩ = some (.slice (some ⟨g0, 0, none⟩) 3 3) := (blk_cell HMY.out 0).trans rfl
          have hbg := Hg22.out
          rw [hat] at hbg
          refine reg21c (u23 := undef) (u10 := undef) (u22 := undef) (u7 := undef) (fun _ _ d _ _ h => by cases d <;> exact h) hr hc hc2 hbg hm0 hna ?_
          intro x164 x165 x166 x167 x168 x169 x170 x171 x172 x173 x174 x175 x176 x177 x178 x179 x180 x181 x182 x183 x184 x185 Y21 hb
          clear hs hq hat hna hm0 hbg
          have HMY := Aside0.mk ((hb.block gm (blk_lt HMY.out)).trans HMY.out)
          have HLS := Aside0.mk (HLS.out.below hb)
          have Hg12 := Aside0.mk (Hg12.out.below hb)
          have Hg14 := Aside0.mk (Hg14.out.below hb)
          have Hg16 := Aside0.mk (Hg16.out.below hb)
          have Hg18 := Aside0.mk (Hg18.out.below hb)
          have Hg20 := Aside0.mk (Hg20.out.below hb)
          have Hg22 := Aside0.mk (Hg22.out.below hb)
          have Hg24 := Aside0.mk (Hg24.out.below hb)
          clear hb
          clear hc hc2
          go_wp2_with fail
          cases t with
          | false =>
            refine reg23f (u26 := undef) (u12 := undef) (u14 := undef) (u18 := undef) (u7 := undef) (u10 := undef) (g12 := g12) (g14 := g14) (g18 := g18) (gm := gm) (fun _ _ d _ _ h => by cases d <;> exact h) ?_
            intro x187 x188 x189 x190 x191 x192 x193 x194 x195 x196 x197 x198 x199 x200 x201 x202 x203 x204 x205 x206 x207 x208 x209 x210 Y23 hb
            have HFIN := Aside0.mk (below_step (below_step HLP.out.1 HLS.out.b) hb)
            clear hb
            go_wp2_with fail
            go_ret
            first | exact ⟨rfl, HFIN.out⟩ | exact ⟨rfl, by rw [← hg0]; exact HFIN.out⟩
          | true =>
            obtain ⟨hlt, hyq⟩ := HYI.out rfl
            obtain ⟨l2, lc2, l5, lc5, hA, hL⟩ := at_rowF (Kd.R_below HROW.out HLS.out.b) i
            rw [HY.out] at hA hL
            rcases hA with ⟨m, ad, e1, e2, e3, e4⟩ | ⟨h1, h2⟩
            · obtain rfl : m = i := by omega
              have hm4 : Y21.cell? ⟨gm, 4, none⟩ = some (.slice (some ad) xs.length c) := by rw [← e3]; exact (blk_cell HMY.out 4).trans rfl
              have hself : relictlaw00_SameTerm.f 10 y.f0 y.f1.f0 y.f1.f1 y.f2 y.f3 y.f4 y.f0 y.f1.f0 y.f1.f1 y.f2 y.f3 y.f4 = some true := by rw [hyq]; exact same_self 1 _ _ (absL_len _) _ _
              refine reg23t (u26 := undef) (u12 := undef) (u14 := undef) (u18 := undef) (u7 := undef) (u10 := undef) (y := y) (fun _ _ d _ _ h => by cases d <;> exact h) e2 HXL.out hself Hg12.out Hg14.out Hg18.out hm4 hL e4 ?_
              clear hL e4 hm4 hself
              intro x187 x188 x189 x190 x191 x192 x193 x194 x195 x196 x197 x198 x199 x200 x201 x202 x203 x204 x205 x206 x207 x208 x209 x210 Y23 hb
              have HFIN := Aside0.mk (below_step (below_step HLP.out.1 HLS.out.b) hb)
              clear hb
              go_wp2_with fail
              go_ret
              first | exact ⟨rfl, HFIN.out⟩ | exact ⟨rfl, by rw [← hg0]; exact HFIN.out⟩
            · exfalso; omega
end Go.Proofs.YthdmacdeefohkaaSrcLaw
