/- HeapAtoms: the walk. -/
import Derived.Test.YtlifdpfhepamfaaHv
import Derived.Deep.RegionHeld3
namespace Go.Proofs.YtlifdpfhepamfaaHAtoms
open Go.RowKit Go.Maps Go.Proofs.YtlifdpfhepamfaaW.PrintWords Go.Proofs.YtlifdpfhepamfaaW.PrintLast Go.Proofs.YtlifdpfhepamfaaW.PrintMore Go.Proofs.YtlifdpfhepamfaaMem Go.Proofs.YtlifdpfhepamfaaLeaf Go.Proofs.YtlifdpfhepamfaaBits Go.Proofs.Ytlifdpfhepamfaa.PHe Go.Proofs.YtlifdpfhepamfaaRow Go.Proofs.YtlifdpfhepamfaaAr Go.Proofs.YtlifdpfhepamfaaHp Go.Proofs.YtlifdpfhepamfaaHn Go.Proofs.YtlifdpfhepamfaaHo Go.Proofs.YtlifdpfhepamfaaHt Go.Proofs.YtlifdpfhepamfaaHw Go.Proofs.YtlifdpfhepamfaaHu Go.Proofs.YtlifdpfhepamfaaHv Go.Proofs
set_option linter.unusedVariables false
set_option linter.unusedSimpArgs false
def T13 : Bool × List (List Nat × List Nat) := (true, [([], []), ([], []), ([0, 1], [0, 1]), ([2], [2]), ([], []), ([], []), ([4, 5], [4, 5]), ([6], [6]), ([3, 7], [3, 7])])
def B13 : List Nat := [0, 0, 3, 7, 0, 0, 48, 112, 255]
theorem tab13 : rtab .any (opsOf Try.f3 13) = T13 := by kernel_rfl
theorem bits13 : waitsOk T13.2 B13 = true := by kernel_rfl
/-- A slice of strings that is read. -/
def ReadsS (w : World) (a : Option Addr) (len : Nat) (ls : List ByteArray) : Prop :=
  ls.length = len ∧ len ≤ 9223372036854775807 ∧ (∀ s, s ∈ ls → s.size ≤ maxLen) ∧ (0 < len → ∃ ad, a = some ad ∧ ∀ j, j < len → w.cell? (ad.add j) = some (.string (ls.getD j ⟨#[]⟩)))
/-- The law's state: the heap's names are the law's own. -/
structure La (w W : World) (h g gw m : Nat) (v v4 : Value) (ns : List ByteArray) : Prop where
  hp : Hp w.heap.size W h g gw m v [] (sizeA 0) ns
  row : Row W w.heap.size 9 1 v4 ns.length (ns.map Value.string)
  ne : ∀ k, v4.ownBlock = some k → ¬ SH h g gw m v k
  be : Below w.heap.size w W
section
variable {w W W1 : World} {h g gw m : Nat} {v v4 : Value} {ns : List ByteArray}
theorem La.below (H : La w W h g gw m v v4 ns) (hb : Below W.heap.size W W1) : La w W1 h g gw m v v4 ns :=
  ⟨H.hp.below hb, H.row.mods (Mods.of_below (fun _ => False) hb) (fun _ _ => id), H.ne, below_step H.be hb⟩
theorem La.row_cell (H : La w W h g gw m v v4 ns) (i : Nat) (hi : i < ns.length) : ∃ q c, v4 = .slice (some ⟨q, 0, none⟩) ns.length c ∧ W.cell? ⟨q, i, none⟩ = some (.string (ns.getD i ⟨#[]⟩)) := by
  obtain ⟨q, c, hv, _⟩ := H.row.some_ (by omega)
  refine ⟨q, c, hv, H.row.cell hv i _ ?_⟩
  rw [List.getElem?_map, List.getElem?_eq_getElem hi, List.getD_eq_getElem?_getD, List.getElem?_eq_getElem hi]
  rfl
/-- Behind Atom: the heap has the name, the law not yet. -/
structure Lb (w W : World) (h g gw m : Nat) (v v4 : Value) (ns : List ByteArray) (s : ByteArray) : Prop where
  hp : Hp w.heap.size W h g gw m v [] (sizeA 0) (namesA ns s)
  row : Row W w.heap.size 9 1 v4 ns.length (ns.map Value.string)
  ne : ∀ k, v4.ownBlock = some k → ¬ SH h g gw m v k
  be : Below w.heap.size w W
theorem La.atom (H : La w W h g gw m v v4 ns) {s : ByteArray} (hp : HpPost w.heap.size W W1 h g gw m v [] (sizeA 0) (namesA ns s)) : ∃ v', Lb w W1 h g gw m v' v4 ns s := by
  obtain ⟨v', h1, h2, h3⟩ := hp
  refine ⟨v', h1, H.row.mods h2 (fun k hk => H.ne k hk), fun k hk hs => ?_, below_mods H.be h2 H.be.size (fun k hk => (H.hp.foot k hk).1)⟩
  have hlt := (H.row.base_ k hk).2
  rcases hs with e | e | e | e | e
  · exact H.ne k hk (.inl e)
  · exact H.ne k hk (.inr (.inl e))
  · exact H.ne k hk (.inr (.inr (.inl e)))
  · exact H.ne k hk (.inr (.inr (.inr (.inl e))))
  · rcases h3 with h3 | ⟨b, h3, hb⟩
    · exact H.ne k hk (.inr (.inr (.inr (.inr (by rw [← h3]; exact e)))))
    · rw [h3] at e
      injection e with e
      omega
theorem Lb.below {s : ByteArray} (H : Lb w W h g gw m v v4 ns s) (hb : Below W.heap.size W W1) : Lb w W1 h g gw m v v4 ns s :=
  ⟨H.hp.below hb, H.row.mods (Mods.of_below (fun _ => False) hb) (fun _ _ => id), H.ne, below_step H.be hb⟩
theorem Lb.row_cell {s : ByteArray} (H : Lb w W h g gw m v v4 ns s) (i : Nat) (hi : i < ns.length) : ∃ q c, v4 = .slice (some ⟨q, 0, none⟩) ns.length c ∧ W.cell? ⟨q, i, none⟩ = some (.string (ns.getD i ⟨#[]⟩)) := by
  obtain ⟨q, c, hv, _⟩ := H.row.some_ (by omega)
  refine ⟨q, c, hv, H.row.cell hv i _ ?_⟩
  rw [List.getElem?_map, List.getElem?_eq_getElem hi, List.getD_eq_getElem?_getD, List.getElem?_eq_getElem hi]
  rfl
theorem Lb.push {s : ByteArray} {A A2 : Option Addr} {c c2 : Nat} {W2 : World} (H : Lb w W h g gw m v (.slice A ns.length c) ns s) (hn : namesA ns s = ns ++ [s])
    (hrow : Row W2 w.heap.size 9 1 (.slice A2 (ns.length + 1) c2) (ns.length + 1) (ns.map Value.string ++ [Value.string s])) (hg : W.grownBy W2 (Value.slice A ns.length c).ownBlock)
    (hat : (Value.slice A2 (ns.length + 1) c2).ownBlock = (Value.slice A ns.length c).ownBlock ∨ ∃ b, (Value.slice A2 (ns.length + 1) c2).ownBlock = some b ∧ W.heap.size ≤ b) :
    La w W2 h g gw m v (.slice A2 (ns.length + 1) c2) (namesA ns s) := by
  have hm : Mods (fun k => some k = (Value.slice A ns.length c).ownBlock) W W2 := Mods.of_grown hg
  refine ⟨H.hp.mods hm (fun k hk hs => H.ne k hs.symm hk), ?_, fun k hk hs => ?_, below_mods H.be hm H.be.size (fun k hk => (H.row.base_ k hk.symm).1)⟩
  · rw [hn]; simpa using hrow
  · rcases hat with q | ⟨b, q, hb⟩
    · rw [q] at hk; exact H.ne k hk hs
    · rw [q] at hk; injection hk with hk; subst hk
      have := (H.hp.foot b hs).2
      omega
end
/-- The place of a name among the first ones. -/
noncomputable def kOf (ns : List ByteArray) (s : ByteArray) (j : Nat) : Int := if ixN ns s < j then (ixN ns s : Nat) else -1
theorem kOf_step {ns : List ByteArray} (hnd : ns.Nodup) (s : ByteArray) (j : Nat) (hj : j < ns.length) : kOf ns s (j + 1) = if ns.getD j ⟨#[]⟩ = s then (j : Int) else kOf ns s j := by
  have hget : ns[j]? = some (ns.getD j ⟨#[]⟩) := by rw [List.getD_eq_getElem?_getD, List.getElem?_eq_getElem hj]; rfl
  by_cases e : ns.getD j ⟨#[]⟩ = s
  · rw [if_pos e]
    rw [e] at hget
    have hin : s ∈ ns := List.mem_of_getElem? hget
    have h1 := ixN_lt ns s hin
    have : ixN ns s = j := by
      have h2 := h1.2
      rw [List.getElem?_eq_getElem h1.1] at h2
      rw [List.getElem?_eq_getElem hj] at hget
      have h3 : ns[ixN ns s] = ns[j] := by injection h2 with h2; injection hget with hget; rw [h2, hget]
      exact (List.getElem_inj hnd).1 h3
    unfold kOf
    rw [this, if_pos (by omega)]
  · rw [if_neg e]
    have hne : ixN ns s ≠ j := by
      intro h
      by_cases hin : s ∈ ns
      · have h1 := ixN_lt ns s hin
        rw [h] at h1
        rw [h1.2] at hget
        injection hget with hget
        exact e hget.symm
      · have h2 := ixN_not ns [] s hin
        simp [ixN] at h2
        omega
    unfold kOf
    by_cases h1 : ixN ns s < j
    · rw [if_pos h1, if_pos (by omega)]
    · rw [if_neg h1, if_neg (by omega)]
theorem kOf_zero (ns : List ByteArray) (s : ByteArray) : kOf ns s 0 = -1 := by unfold kOf; rw [if_neg (by omega)]
theorem kOf_all (ns : List ByteArray) (s : ByteArray) : (s ∈ ns ∧ kOf ns s ns.length = (ixN ns s : Nat) ∧ namesA ns s = ns ∧ ixOf (namesA ns s) s = ixN ns s + 1) ∨ (s ∉ ns ∧ kOf ns s ns.length = -1 ∧ namesA ns s = ns ++ [s] ∧ ixOf (namesA ns s) s = ns.length + 1) := by
  by_cases hin : s ∈ ns
  · have h1 := ixN_lt ns s hin
    have h2 : namesA ns s = ns := by unfold namesA; rw [if_pos hin]
    exact .inl ⟨hin, by unfold kOf; rw [if_pos h1.1], h2, by rw [h2]; rfl⟩
  · have h1 := ixN_not ns [] s hin
    simp [ixN] at h1
    have h2 : namesA ns s = ns ++ [s] := by unfold namesA; rw [if_neg hin]
    refine .inr ⟨hin, by unfold kOf; rw [if_neg (by omega)], h2, ?_⟩
    rw [h2]; unfold ixOf; rw [ixN_not _ _ _ hin]; simp [ixN]
theorem streq (t s : ByteArray) : (t.toList == s.toList) = decide (t = s) := by
  by_cases e : t = s
  · subst e; simp
  · rw [decide_eq_false e, beq_eq_false_iff_ne]
    intro h
    rw [ByteArray.toList_eq, ByteArray.toList_eq] at h
    exact e (WideShapes.bytes_inj h)
theorem found (ns : List ByteArray) (s : ByteArray) : ∃ kk : Nat, ixOf (namesA ns s) s = kk + 1 ∧ kk ≤ ns.length ∧ (namesA ns s)[kk]? = some s ∧ ((kOf ns s ns.length = (kk : Int) ∧ namesA ns s = ns) ∨ (s ∉ ns ∧ kOf ns s ns.length = -1 ∧ namesA ns s = ns ++ [s] ∧ kk = ns.length)) := by
  rcases kOf_all ns s with ⟨h1, h2, h3, h4⟩ | ⟨h1, h2, h3, h4⟩
  · have := ixN_lt ns s h1
    exact ⟨ixN ns s, h4, by omega, by rw [h3]; exact this.2, .inl ⟨h2, h3⟩⟩
  · exact ⟨ns.length, h4, by omega, by rw [h3]; simp, .inr ⟨h1, h2, h3, rfl⟩⟩
theorem atomW_small (k : Nat) (hk : k ≤ 1000) : atomW (k + 1) = ((k : Int) + 1) * 16 + 7 := by unfold atomW; rw [if_pos (by omega)]; omega
theorem or7 (k : Nat) (hk : k ≤ 1000) : Go.bits .or .u64 (((k : Int) + 1) * 16) 7 = ((k : Int) + 1) * 16 + 7 := or_join 4 (((k : Int) + 1) * 16) 7 (by omega) (by omega) (by omega) (by omega) (by omega) (by omega)
set_option maxHeartbeats 16000000 in
set_option maxRecDepth 100000 in
theorem law_calls (a : Option Addr) (len cap : Nat) (ls : List ByteArray) (w : World) (hr : ReadsS w a len ls ∧ len ≤ cap) :
    Calls Try.prog 3 #[.slice a len cap] w fun e w' => e = .returned (.bool true) ∧ Below w.heap.size w w' := by
  have HR := Aside0.mk hr.1
  have HNEW := Aside0.mk (new_calls 0 w w.heap.size (Nat.le_refl _))
  have HCAP := Aside0.mk hr.2
  have hlen : len ≤ 9223372036854775807 := hr.1.2.1
  obtain ⟨i0, hi, hz0, hz1, hz2⟩ := info_parts infoS
  have HI := Aside0.mk (And.intro hi (And.intro hz0 (And.intro hz1 hz2)))
  clear hr hi hz0 hz1 hz2
  go_enter Try.func3, Try.ntmps3
  go_wp2_with fail
  refine HNEW.out.mono ?_
  rintro e w1 ⟨h, g, gw, m, rfl, hh, hb, hlo⟩
  have HL0 : Aside0 (La w w1 h g gw m (.slice none 0 0) (.slice none 0 0) []) := ⟨hh, ⟨rfl, .inl ⟨rfl, rfl⟩⟩, (fun k hk => by cases hk), hb⟩
  clear hh hb hlo HNEW
  go_wp2_with fail
  go_loopg [4, 5] 41 (fun q v4 v5 wr => ∃ (i : Nat) (v : Value) (ns : List ByteArray), v5 = .int .i64 i ∧ i ≤ 40 ∧ i ≤ len ∧ ns.length ≤ i ∧ q = 41 - i ∧ Aside0 (La w wr h g gw m v v4 ns))
  case atStart => exact ⟨0, _, [], rfl, by omega, by omega, by simp, rfl, HL0⟩
  case round =>
    clear HL0
    obtain ⟨i, v, ns, rfl, hi, hil, hns, rfl, HA⟩ := hrel
    obtain ⟨AN, cN, hvN, hcN⟩ := HA.out.row.form
    subst hvN
    by_cases hlt : i < len ∧ i < 40
    · obtain ⟨hl1, hl2⟩ := hlt
      have b1 : (i : Int) < (len : Int) := by omega
      have b2 : (i : Int) < 40 := by omega
      obtain ⟨ad, ea, hcell⟩ := HR.out.2.2.2 (by omega)
      subst ea
      have hcw := pw_cell_below HA.out.be (hcell i hl1)
      have hcell0 := hcell i hl1
      have hsz : (ls.getD i ⟨#[]⟩).size ≤ maxLen := HR.out.2.2.1 _ (by rw [List.getD_eq_getElem?_getD, List.getElem?_eq_getElem (by rw [HR.out.1]; omega)]; exact List.getElem_mem _)
      generalize ls.getD i ⟨#[]⟩ = s at hcw hsz hcell0
      have HS := Aside0.mk (And.intro hcell0 hsz)
      have HAT := Aside0.mk (atom_calls wr w.heap.size h g gw m v [] (sizeA 0) ns s HA.out.hp hsz (by omega))
      obtain ⟨kk, hk1, hk2, hk3, hk4⟩ := found ns s
      rw [hk1, atomW_small kk (by omega)] at HAT
      have HKK := Aside0.mk (And.intro hk3 hk4)
      have hkb : kk ≤ 40 := by omega
      clear hcell hcell0 hsz hk1 hk3 hk4
      go_wp2_with fail
      refine HAT.out.mono ?_
      rintro e w2 ⟨rfl, hpp⟩
      obtain ⟨v', hb2⟩ := HA.out.atom hpp
      have HB2 := Aside0.mk hb2
      have HND := Aside0.mk HA.out.hp.nd
      clear hpp hb2 HAT HA hcw
      go_wp2_with fail
      go_loopg [7, 8] (ns.length + 1) (fun q v7 v8 wr => ∃ j : Nat, v8 = .int .i64 j ∧ v7 = .int .i64 (kOf ns s j) ∧ j ≤ ns.length ∧ q = ns.length + 1 - j ∧ Aside0 (Lb w wr h g gw m v' (.slice AN ns.length cN) ns s))
      case atStart => exact ⟨0, rfl, by rw [kOf_zero], by omega, rfl, HB2⟩
      case round =>
        clear HB2
        obtain ⟨j, rfl, rfl, hj, rfl, HB⟩ := hrel
        by_cases hjl : j < ns.length
        · have b3 : (j : Int) < (ns.length : Int) := by omega
          obtain ⟨q, cq, hq, hcq⟩ := HB.out.row_cell j hjl
          injection hq with hq1 _ hq2
          subst hq1 hq2
          have HCQ := Aside0.mk hcq
          have HCS := Aside0.mk (pw_cell_below HB.out.be HS.out.1)
          have HKS := Aside0.mk (kOf_step HND.out s j hjl)
          generalize ns.getD j ⟨#[]⟩ = t at HCQ HKS
          clear hcq
          go_wp2_with fail
          have HBB := Aside0.mk (below_drew (Below.refl wr.heap.size wr))
          refine start_ (n := 9) (S := fun w' => Below wr.heap.size wr w') (ds := []) #[false, false, false, false, false, false, false, false, false] (by kernel_rfl) rfl rfl HBB.out (fun hHeld => ?_); refine with_tabW tab13 bits13 (fun HT_ HW_ => ?_)
          generalize wr.drew = wd at HBB hHeld ⊢
          refine pure_ (i := 0) (N := (some 40)) (v := ?_) (a' := ?_) #[true, false, false, false, false, false, false, false, false] rfl rfl (any_of HT_.out (by kernel_rfl)) (fun _ _ _ h => h) (Or.inl ⟨by rfl, ?_⟩) ?_ ?_
          rotate_left; (intro w'; go_simp; with_reducible rfl)
          rotate_left; (simp only [Act.put, List.setIfInBounds_toArray, List.set_cons_zero, List.set_cons_succ, i64_w, i32_w]; rfl)
          refine pure_ (i := 1) (N := (some 41)) (v := ?_) (a' := ?_) #[true, true, false, false, false, false, false, false, false] rfl rfl (any_of HT_.out (by kernel_rfl)) (fun _ _ _ h => h) (Or.inl ⟨by rfl, ?_⟩) ?_ ?_
          rotate_left; (intro w'; go_simp; with_reducible rfl)
          rotate_left; (simp only [Act.put, List.setIfInBounds_toArray, List.set_cons_zero, List.set_cons_succ, i64_w, i32_w]; rfl)
          refine pure_ (i := 2) (N := (some 42)) (v := ?_) (a' := ?_) #[true, true, true, false, false, false, false, false, false] rfl rfl (any_of HT_.out (by kernel_rfl)) (fun _ _ _ h => h) (Or.inl ⟨by rfl, ?_⟩) ?_ ?_
          rotate_left; (intro w'; go_simp; with_reducible rfl)
          rotate_left; (simp only [Act.put, List.setIfInBounds_toArray, List.set_cons_zero, List.set_cons_succ, i64_w, i32_w]; rfl)
          refine take_ (i := 3) (N := (some 43)) (v := ?_) (a' := ?_) #[true, true, true, true, false, false, false, false, false] rfl rfl (take_ofW HT_.out HW_.out (by kernel_rfl)) (fun _ _ _ h => h) (Or.inl ⟨by rfl, ?_⟩) hHeld ?_ ?_
          rotate_left; (intro w' hs; have s0 := pw_cell_below hs HCQ.out; go_simp; with_reducible rfl)
          rotate_left; (simp only [Act.put, List.setIfInBounds_toArray, List.set_cons_zero, List.set_cons_succ, i64_w, i32_w]; rfl)
          refine pure_ (i := 4) (N := (some 44)) (v := ?_) (a' := ?_) #[true, true, true, true, true, false, false, false, false] rfl rfl (any_of HT_.out (by kernel_rfl)) (fun _ _ _ h => h) (Or.inl ⟨by rfl, ?_⟩) ?_ ?_
          rotate_left; (intro w'; go_simp; with_reducible rfl)
          rotate_left; (simp only [Act.put, List.setIfInBounds_toArray, List.set_cons_zero, List.set_cons_succ, i64_w, i32_w]; rfl)
          refine pure_ (i := 5) (N := (some 45)) (v := ?_) (a' := ?_) #[true, true, true, true, true, true, false, false, false] rfl rfl (any_of HT_.out (by kernel_rfl)) (fun _ _ _ h => h) (Or.inl ⟨by rfl, ?_⟩) ?_ ?_
          rotate_left; (intro w'; go_simp; with_reducible rfl)
          rotate_left; (simp only [Act.put, List.setIfInBounds_toArray, List.set_cons_zero, List.set_cons_succ, i64_w, i32_w]; rfl)
          refine pure_ (i := 6) (N := (some 46)) (v := ?_) (a' := ?_) #[true, true, true, true, true, true, true, false, false] rfl rfl (any_of HT_.out (by kernel_rfl)) (fun _ _ _ h => h) (Or.inl ⟨by rfl, ?_⟩) ?_ ?_
          rotate_left; (intro w'; go_simp; with_reducible rfl)
          rotate_left; (simp only [Act.put, List.setIfInBounds_toArray, List.set_cons_zero, List.set_cons_succ, i64_w, i32_w]; rfl)
          refine take_ (i := 7) (N := (some 47)) (v := ?_) (a' := ?_) #[true, true, true, true, true, true, true, true, false] rfl rfl (take_ofW HT_.out HW_.out (by kernel_rfl)) (fun _ _ _ h => h) (Or.inl ⟨by rfl, ?_⟩) hHeld ?_ ?_
          rotate_left; (intro w' hs; have s0 := pw_cell_below hs HCS.out; go_simp; with_reducible rfl)
          rotate_left; (simp only [Act.put, List.setIfInBounds_toArray, List.set_cons_zero, List.set_cons_succ, i64_w, i32_w]; rfl)
          refine pure_ (i := 8) (N := (some 48)) (v := (.bool (decide (t = s)))) (a' := ?_) #[true, true, true, true, true, true, true, true, true] rfl rfl (any_of HT_.out (by kernel_rfl)) (fun _ _ _ h => h) (Or.inl ⟨by rfl, ?_⟩) ?_ ?_
          · (intro w'; go_simp; all_goals (rw [streq]))
          rotate_left; (simp only [Act.put, List.setIfInBounds_toArray, List.set_cons_zero, List.set_cons_succ, i64_w, i32_w]; rfl)
          refine done_ (done_of HT_.out (by kernel_rfl)) ?_
          have HB3 := Aside0.mk (HB.out.below HBB.out)
          clear HT_ HW_ HBB hHeld
          by_cases e : t = s
          · have hks := HKS.out
            rw [if_pos e] at hks
            subst e
            have HK1 := Aside0.mk hks
            clear hks HKS
            go_wp2_with fail
            go_roundg (ns.length + 1 - (j + 1))
            case measure => omega
            case rel => exact ⟨j + 1, by go_num, by rw [HK1.out], by omega, rfl, HB3⟩
          · have hks := HKS.out
            rw [if_neg e] at hks
            have HK1 := Aside0.mk hks
            clear hks HKS
            go_wp2_with fail
            go_roundg (ns.length + 1 - (j + 1))
            case measure => omega
            case rel => exact ⟨j + 1, by go_num, by rw [HK1.out], by omega, rfl, HB3⟩
        · obtain rfl : j = ns.length := by omega
          have b3 : ¬ (ns.length : Int) < (ns.length : Int) := by omega
          rcases HKK.out.2 with ⟨hk5, hk6⟩ | ⟨hk5, hk6, hk7, rfl⟩
          · rw [hk5]
            have HLA := Aside0.mk (show La w wr h g gw m v' (.slice AN ns.length cN) (namesA ns s) from ⟨HB.out.hp, by rw [hk6]; exact HB.out.row, HB.out.ne, HB.out.be⟩)
            have HLEN : Aside0 ((namesA ns s).length ≤ i + 1) := ⟨by rw [hk6]; omega⟩
            clear hk5 hk6 HB
            have HNM : Aside0 (∀ W, La w W h g gw m v' (.slice AN ns.length cN) (namesA ns s) → Calls Try.prog 15 #[.pointer (some ⟨h, 0, none⟩), .int .i64 ((kk : Int) + 1)] W fun e w' => e = .returned (.tuple #[.string s, .bool true]) ∧ Below W.heap.size W w') := ⟨fun W hl => by
              have q := name_calls W w.heap.size h g gw m v' [] (sizeA 0) (namesA ns s) ((kk : Int) + 1) hl.hp
              have hlt : kk < (namesA ns s).length := by
                have hk3 := HKK.out.1
                exact (List.getElem?_eq_some_iff.1 hk3).1
              have e1 : nameOf (namesA ns s) ((kk : Int) + 1) = (s, true) := by
                unfold nameOf
                rw [if_neg (by omega), show ((kk : Int) + 1).toNat - 1 = kk by omega, List.getD_eq_getElem?_getD, HKK.out.1]
                rfl
              rw [e1] at q
              exact q⟩
            have ew : wrap64 ((kk : Int) + 1) = (kk : Int) + 1 := by unfold wrap64; omega
            have eu : IntKind.u64.wrap ((kk : Int) + 1) = (kk : Int) + 1 := by rw [wrap_u64]; omega
            have es : IntKind.u64.wrap (((kk : Int) + 1) * 16) = ((kk : Int) + 1) * 16 := by rw [wrap_u64]; omega
            have eo := or7 kk (by omega)
            have hq := streq s s
            rw [decide_eq_true rfl] at hq
            go_wp2_with fail
            refine (HNM.out _ HLA.out).mono ?_
            rintro e w4 ⟨rfl, hb⟩
            have HL4 := Aside0.mk (HLA.out.below hb)
            have hcs4 := pw_cell_below HL4.out.be HS.out.1
            clear hb HLA HNM
            go_wp2_with fail
            go_roundg (41 - (i + 1))
            case measure => omega
            case rel => exact ⟨i + 1, v', namesA ns s, by go_num, by omega, by omega, HLEN.out, rfl, HL4⟩
          · have HK6 := Aside0.mk hk6
            have hcs := pw_cell_below HB.out.be HS.out.1
            obtain ⟨W1, hW1⟩ : ∃ W1, wr.alloc (.cells #[.string s] 9) = W1 := ⟨_, rfl⟩
            have hb1 : Below wr.heap.size wr W1 := by rw [← hW1]; exact below_alloc (Below.refl _ _) _
            have hn1 : W1.heap[wr.heap.size]? = some (.cells #[.string s] 9 (0, 0)) := by rw [← hW1]; exact heap_alloc_new _ _
            have HH1 := Aside0.mk (HB.out.below hb1)
            have HB1 := Aside0.mk hb1
            have HN1 := Aside0.mk hn1
            have HSZ := Aside0.mk HS.out.2
            have HSUM := Aside0.mk hk7
            have hnl : (ns.length : Int) ≤ 40 := by omega
            have HNS : Aside0 (ns.length ≤ 40 ∧ i < 40) := ⟨by omega⟩
            rw [hk6]
            clear hk5 hk6 hk7 hb1 hn1 HB hnl
            go_wp2_with (first
              | (at_builtin; refine wp_append_row rfl (.tmp 54) (.tmp 59) 22 rfl w.heap.size 9 i0 (.string ⟨#[]⟩) 1 16 Try.underlying22 HI.out.1 HI.out.2.1 HI.out.2.2.1 HI.out.2.2.2 rfl (by omega) _ ns.length (ns.map Value.string) rfl HH1.out.row ⟨wr.heap.size, 0, none⟩ 1 1 [.string s] rfl rfl (fun j u hj => by rw [add_plain, blk_cell HN1.out]; simpa using hj) (by intro u hu; simp at hu; subst hu; rfl) (by have := HNS.out; unfold maxLen; omega) (by have := HNS.out; omega) (by have := HH1.out.be.size; omega) ?_; intro A2 c2 w2 hrow2 hg2 hat2; have HR2 := Aside0.mk hrow2; have HG2 := Aside0.mk hg2; have HAT2 := Aside0.mk hat2; have HLA := Aside0.mk (HH1.out.push (by rw [HSUM.out]) hrow2 hg2 hat2); clear hrow2 hg2 hat2))
            clear hcs hW1
            have HLEN : Aside0 ((namesA ns s).length ≤ i + 1) := ⟨by rw [HSUM.out]; simp; omega⟩
            have HNM : Aside0 (∀ W, La w W h g gw m v' (.slice A2 (ns.length + 1) c2) (namesA ns s) → Calls Try.prog 15 #[.pointer (some ⟨h, 0, none⟩), .int .i64 ((ns.length : Int) + 1)] W fun e w' => e = .returned (.tuple #[.string s, .bool true]) ∧ Below W.heap.size W w') := ⟨fun W hl => by
              have q := name_calls W w.heap.size h g gw m v' [] (sizeA 0) (namesA ns s) ((ns.length : Int) + 1) hl.hp
              have hlt : ns.length < (namesA ns s).length := by
                have hk3 := HKK.out.1
                exact (List.getElem?_eq_some_iff.1 hk3).1
              have e1 : nameOf (namesA ns s) ((ns.length : Int) + 1) = (s, true) := by
                unfold nameOf
                rw [if_neg (by omega), show ((ns.length : Int) + 1).toNat - 1 = ns.length by omega, List.getD_eq_getElem?_getD, HKK.out.1]
                rfl
              rw [e1] at q
              exact q⟩
            have ew : wrap64 ((ns.length : Int) + 1) = (ns.length : Int) + 1 := by unfold wrap64; omega
            have eu : IntKind.u64.wrap ((ns.length : Int) + 1) = (ns.length : Int) + 1 := by rw [wrap_u64]; omega
            have es : IntKind.u64.wrap (((ns.length : Int) + 1) * 16) = ((ns.length : Int) + 1) * 16 := by rw [wrap_u64]; omega
            have eo := or7 ns.length (by omega)
            have hq := streq s s
            rw [decide_eq_true rfl] at hq
            go_wp2_with fail
            refine (HNM.out _ HLA.out).mono ?_
            rintro e w4 ⟨rfl, hb⟩
            have HL4 := Aside0.mk (HLA.out.below hb)
            have hcs4 := pw_cell_below HL4.out.be HS.out.1
            clear hb HLA HNM
            go_wp2_with fail
            go_roundg (41 - (i + 1))
            case measure => omega
            case rel => exact ⟨i + 1, v', namesA ns s, by go_num, by omega, by omega, HLEN.out, rfl, HL4⟩
    · have HB0 := Aside0.mk (show ∀ W, La w W h g gw m v (.slice AN ns.length cN) ns → Calls Try.prog 15 #[.pointer (some ⟨h, 0, none⟩), .int .i64 ((ns.length : Int) + 1)] W fun e w' => e = .returned (.tuple #[.string ⟨#[]⟩, .bool false]) ∧ Below W.heap.size W w' from fun W hl => by
        have q := name_calls W w.heap.size h g gw m v [] (sizeA 0) ns ((ns.length : Int) + 1) hl.hp
        have e1 : nameOf ns ((ns.length : Int) + 1) = (⟨#[]⟩, false) := by unfold nameOf; rw [if_pos (.inr (by omega))]
        rw [e1] at q
        exact q)
      have HZ0 := Aside0.mk (show ∀ W, La w W h g gw m v (.slice AN ns.length cN) ns → Calls Try.prog 15 #[.pointer (some ⟨h, 0, none⟩), .int .i64 0] W fun e w' => e = .returned (.tuple #[.string ⟨#[]⟩, .bool false]) ∧ Below W.heap.size W w' from fun W hl => by
        have q := name_calls W w.heap.size h g gw m v [] (sizeA 0) ns 0 hl.hp
        have e1 : nameOf ns 0 = (⟨#[]⟩, false) := by unfold nameOf; rw [if_pos (.inl (by omega))]
        rw [e1] at q
        exact q)
      have ew : wrap64 ((ns.length : Int) + 1) = (ns.length : Int) + 1 := by unfold wrap64; omega
      by_cases h1 : i < len
      · have b1 : (i : Int) < (len : Int) := by omega
        have b2 : ¬ (i : Int) < 40 := by omega
        go_wp2_with fail
        refine (HB0.out _ HA.out).mono ?_
        rintro e w2 ⟨rfl, hb⟩
        have HA2 := Aside0.mk (HA.out.below hb)
        clear hb HA
        go_wp2_with fail
        refine (HZ0.out _ HA2.out).mono ?_
        rintro e w3 ⟨rfl, hb⟩
        have HA3 := Aside0.mk (HA2.out.below hb)
        clear hb HA2
        go_wp2_with fail
        refine (awake_calls _).mono ?_
        rintro e w4 ⟨rfl, hb⟩
        have HA4 := Aside0.mk (HA3.out.below hb)
        clear hb HA3
        go_wp2_with fail
        go_ret
        exact ⟨rfl, HA4.out.be⟩
      · have b1 : ¬ (i : Int) < (len : Int) := by omega
        go_wp2_with fail
        refine (HB0.out _ HA.out).mono ?_
        rintro e w2 ⟨rfl, hb⟩
        have HA2 := Aside0.mk (HA.out.below hb)
        clear hb HA
        go_wp2_with fail
        refine (HZ0.out _ HA2.out).mono ?_
        rintro e w3 ⟨rfl, hb⟩
        have HA3 := Aside0.mk (HA2.out.below hb)
        clear hb HA2
        go_wp2_with fail
        refine (awake_calls _).mono ?_
        rintro e w4 ⟨rfl, hb⟩
        have HA4 := Aside0.mk (HA3.out.below hb)
        clear hb HA3
        go_wp2_with fail
        go_ret
        exact ⟨rfl, HA4.out.be⟩
end Go.Proofs.YtlifdpfhepamfaaHAtoms
