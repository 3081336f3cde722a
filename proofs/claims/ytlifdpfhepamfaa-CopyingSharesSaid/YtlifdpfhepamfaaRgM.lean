/- The reader of terms: numbers, in boxes and small; Get of them. -/
import Derived.Test.YtlifdpfhepamfaaRt
import Derived.Test.YtlifdpfhepamfaaNof
import Derived.Deep.RegionHeld3
namespace Go.Proofs.YtlifdpfhepamfaaRn
open Go.RowKit Go.Maps Go.Proofs.YtlifdpfhepamfaaW.PrintWords Go.Proofs.YtlifdpfhepamfaaW.PrintLast Go.Proofs.YtlifdpfhepamfaaW.PrintMore Go.Proofs.YtlifdpfhepamfaaMem Go.Proofs.YtlifdpfhepamfaaLeaf Go.Proofs.YtlifdpfhepamfaaBits Go.Proofs.Ytlifdpfhepamfaa.PHe Go.Proofs.YtlifdpfhepamfaaRow Go.Proofs.YtlifdpfhepamfaaAr Go.Proofs.YtlifdpfhepamfaaHp Go.Proofs.YtlifdpfhepamfaaHn Go.Proofs.YtlifdpfhepamfaaHo Go.Proofs.YtlifdpfhepamfaaWd Go.Proofs.YtlifdpfhepamfaaRd Go.Proofs.YtlifdpfhepamfaaRt Go.Proofs
set_option linter.unusedVariables false
set_option linter.unusedSimpArgs false
def T9 : Bool × List (List Nat × List Nat) := (true, [([], []), ([0], [0]), ([], []), ([2], [2]), ([3, 3], [3]), ([4], [4]), ([5, 4], [4, 5]), ([6, 4], [4, 6]), ([4, 7], [4, 7]), ([1, 4, 0, 1], [1]), ([8, 9, 0, 1, 2, 3, 4, 5, 6, 7, 8, 9], [8])])
def B9 : List Nat := [0, 1, 0, 4, 12, 28, 60, 124, 252, 31, 1023]
theorem tab9 : rtab .any (opsOf Try.f155 9) = T9 := by kernel_rfl
theorem bits9 : waitsOk T9.2 B9 = true := by kernel_rfl
theorem info32b : (Try.prog.info? 102).map (fun i => (i.zero, i.size, i.bytes)) = some (some (.int .u32 0), 1, 4) := by kernel_rfl
/-- A row of limbs, of this memory. -/
abbrev RL (W : World) (b : Nat) (A : Option Addr) (c : Nat) (xs : List Int) : Prop := Kd.R (Kd.int .u32) 102 W b (fun _ => True) (.slice A xs.length c) xs
theorem reads_be {w W : World} {k : IntKind} {A : Option Addr} {n : Nat} {xs : List Int} (h : ReadsInt w k A n xs) (hb : Below w.heap.size w W) : ReadsInt W k A n xs := reads_mods h (Mods.of_below (fun _ => False) hb) (fun _ _ => id)
/-- A number and a row that is laid, while the limbs are read. -/
structure Nl (w W : World) (g6 g8 : Nat) (neg : Bool) (v : Value) (ys : List Int) : Prop where
  z : W.heap[g6]? = some (.cells #[.int .i64 0, .bool false, .slice none 0 0, .string ⟨#[]⟩, .int .i64 0, .slice none 0 0] 43 (0, 0))
  n : W.heap[g8]? = some (.cells #[.bool neg, v] 41 (0, 0))
  o : W.ownsRow w.heap.size 102 1 v ys.length (nums .u32 ys)
  b : Below w.heap.size w W
theorem own_ne {W : World} {b g : Nat} {v : Value} {m : Nat} {xs : List Value} {e t : TypeId} {cs : Array Value} (h : W.ownsRow b e 1 v m xs) (hg : W.heap[g]? = some (.cells cs t (0, 0))) (ht : t ≠ e) : some g ≠ v.ownBlock := by
  rcases h.2 with ⟨rfl, _⟩ | ⟨q, cap, cur, rfl, _, hh, _⟩
  · simp [Value.ownBlock]
  · intro e1
    simp only [Value.ownBlock, Option.some.injEq] at e1
    subst e1
    rw [hg] at hh
    simp only [Option.some.injEq, Obj.cells.injEq] at hh
    exact ht hh.2.1
theorem own_slice {W : World} {b : Nat} {v : Value} {m : Nat} {xs : List Value} {e : TypeId} (h : W.ownsRow b e 1 v m xs) : ∃ A c, v = .slice A m c := by
  rcases h.2 with ⟨rfl, h0⟩ | ⟨q, cap, cur, rfl, _, hh, _⟩
  · exact ⟨none, 0, by rw [h0]⟩
  · exact ⟨_, _, rfl⟩
theorem six_R {W : World} {b : Nat} {P : Nat → Prop} {v : Value} {xs : List Int} (h : Kd.R (Kd.int .u32) 102 W b P v xs) (g : Nat) (x0 x1 x2 x3 x4 x5 : Value) (hn : ∀ k, P k → k ≠ g) : Kd.R (Kd.int .u32) 102 ((((((W.setCell ⟨g, 0, none⟩ x0).setCell ⟨g, 1, none⟩ x1).setCell ⟨g, 2, none⟩ x2).setCell ⟨g, 3, none⟩ x3).setCell ⟨g, 4, none⟩ x4).setCell ⟨g, 5, none⟩ x5) b (fun _ => True) v xs :=
  Kd.R_mono (Kd.R_far (p := ⟨g, 5, none⟩) (Kd.R_far (p := ⟨g, 4, none⟩) (Kd.R_far (p := ⟨g, 3, none⟩) (Kd.R_far (p := ⟨g, 2, none⟩) (Kd.R_far (p := ⟨g, 1, none⟩) (Kd.R_far (p := ⟨g, 0, none⟩) h hn _) hn _) hn _) hn _) hn _) hn _) (fun _ _ => trivial)
theorem grown_blk {W W1 : World} {o : Option Nat} {g : Nat} {x : Obj} (h : W.grownBy W1 o) (hg : W.heap[g]? = some x) (hn : some g ≠ o) : W1.heap[g]? = some x := (h.block g (blk_lt hg) hn).trans hg
set_option maxHeartbeats 16000000 in
set_option maxRecDepth 100000 in
theorem rnum_calls (w : World) (rv : Value) (neg : Bool) (A : Option Addr) (c : Nat) (xs : List Int) (hr : ReadsInt w .u64 A xs.length xs) (hc : xs.length ≤ c) (hu32 : U32 xs) (hl0 : 0 < xs.length) (hl : xs.length ≤ 12) (hk : num_Check.f neg xs = some true) :
    Calls Try.prog 155 #[rv, .bool neg, .slice A xs.length c] w fun e w' => ∃ A' c', e = .returned (.tuple #[tv 1 neg A' xs.length c' ⟨#[]⟩ 0 none 0 0, .bool true]) ∧ RL w' w.heap.size A' c' xs ∧ Below w.heap.size w w' := by
  have hut := Try.underlying43
  have hun := Try.underlying41
  obtain ⟨ad, hA, _⟩ := read_at hr 0 hl0
  subst hA
  have HR := Aside0.mk hr
  have HU := Aside0.mk hu32
  have HK := Aside0.mk hk
  obtain ⟨len, hlen⟩ : ∃ len, xs.length = len := ⟨_, rfl⟩
  have HLEN := Aside0.mk hlen
  rw [hlen] at hl0 hl hc HR ⊢
  obtain ⟨g6, hg6⟩ : ∃ g6, w.heap.size = g6 := ⟨_, rfl⟩
  obtain ⟨g8, hg8⟩ : ∃ g8, g6 + 1 = g8 := ⟨_, rfl⟩
  obtain ⟨W0, hW0⟩ : ∃ W0, w.alloc (.cells #[.int .i64 0, .bool false, .slice none 0 0, .string ⟨#[]⟩, .int .i64 0, .slice none 0 0] 43) = W0 := ⟨_, rfl⟩
  have hs0 : W0.heap.size = g8 := by rw [← hW0, ← hg8, ← hg6]; exact Array.size_push _
  obtain ⟨W1, hW1⟩ : ∃ W1, W0.alloc (.cells #[.bool false, .slice none 0 0] 41) = W1 := ⟨_, rfl⟩
  have h6 : W1.heap[g6]? = some (.cells #[.int .i64 0, .bool false, .slice none 0 0, .string ⟨#[]⟩, .int .i64 0, .slice none 0 0] 43 (0, 0)) := by rw [← hW1, ← hW0, ← hg6]; exact blk_new1 _ _ _
  have h8 : W1.heap[g8]? = some (.cells #[.bool false, .slice none 0 0] 41 (0, 0)) := by rw [← hW1, ← hs0]; exact heap_alloc_new _ _
  have hb1 : Below w.heap.size w W1 := by rw [← hW1, ← hW0]; exact below_alloc (below_alloc (Below.refl _ _) _) _
  obtain ⟨c0, c1, f0, f1⟩ := two_cells h8
  have hn2 := two_put (a' := .bool neg) (b' := .slice none 0 0) h8
  have hb2 : Below w.heap.size w ((W1.setCell ⟨g8, 0, none⟩ (.bool neg)).setCell ⟨g8, 1, none⟩ (.slice none 0 0)) := below_set (below_set hb1 (by omega)) (by omega)
  have hz2 : ((W1.setCell ⟨g8, 0, none⟩ (.bool neg)).setCell ⟨g8, 1, none⟩ (.slice none 0 0)).heap[g6]? = some (.cells #[.int .i64 0, .bool false, .slice none 0 0, .string ⟨#[]⟩, .int .i64 0, .slice none 0 0] 43 (0, 0)) := by
    rw [show g6 = g8 - 1 by omega] at h6 ⊢
    exact Mods.blk (((Mods.refl (fun k => k = g8) W1).setCell (p := ⟨g8, 0, none⟩) (.inl rfl) _).setCell (p := ⟨g8, 1, none⟩) (.inl rfl) _) h6 (by omega)
  obtain ⟨W2, hW2⟩ : ∃ W2, (W1.setCell ⟨g8, 0, none⟩ (.bool neg)).setCell ⟨g8, 1, none⟩ (.slice none 0 0) = W2 := ⟨_, rfl⟩
  rw [hW2] at hn2 hb2 hz2
  have HN := Aside0.mk (show Nl w W2 g6 g8 neg (.slice none 0 0) (xs.take 0) from ⟨hz2, hn2, ⟨rfl, .inl ⟨rfl, rfl⟩⟩, hb2⟩)
  have HG := Aside0.mk (And.intro (show w.heap.size ≤ g6 by omega) (show w.heap.size ≤ g8 by omega))
  have HNE := Aside0.mk (show g6 ≠ g8 by omega)
  clear hr hu32 hk hlen h6 h8 hb1 hn2 hb2 hz2
  go_enter Try.func155, Try.ntmps155
  go_wp2_with fail
  go_loopg [15] len (fun q v15 wr => ∃ (i : Nat) (v : Value), q = len - i ∧ i ≤ len ∧ v15 = .int .i64 i ∧ Aside0 (Nl w wr g6 g8 neg v (xs.take i)))
  case atStart => exact ⟨0, .slice none 0 0, by omega, by omega, rfl, HN⟩
  case round =>
    obtain ⟨i, v, rfl, hi, rfl, HL⟩ := hrel
    clear c0 c1 f0 f1 hW0 hW1 hW2
    by_cases hlt : i < len
    · have b1 : (i : Int) < (len : Int) := by omega
      obtain ⟨ad', e, hcell⟩ := read_at (reads_be HR.out HL.out.b) i hlt
      cases e
      obtain ⟨d0, d1, e0, e1⟩ := two_cells HL.out.n
      have htk : xs.take (i + 1) = xs.take i ++ [xs.getD i 0] := by
        have := HLEN.out
        rw [List.take_add_one, List.getD_eq_getElem?_getD, List.getElem?_eq_getElem (by omega)]
        rfl
      have hx := HU.out i
      generalize xs.getD i 0 = x at hcell htk hx
      have HTK := Aside0.mk htk
      have b2 : ¬ (4294967295 : Int) < x := by omega
      have ew : IntKind.u32.wrap x = x := by simp [IntKind.wrap, IntKind.bits, IntKind.signed]; omega
      have HTL := Aside0.mk (show (xs.take i).length ≤ 12 by rw [List.length_take]; omega)
      obtain ⟨W5, hW5⟩ : ∃ W5, wr.alloc (.cells #[.int .u32 x] 102) = W5 := ⟨_, rfl⟩
      have HOW5 := Aside0.mk (show W5.ownsRow w.heap.size 102 1 v (xs.take i).length (nums .u32 (xs.take i)) from hW5 ▸ World.ownsRow.alloc (w := wr) HL.out.o _)
      have hb5 : Below wr.heap.size wr W5 := hW5 ▸ below_alloc (Below.refl _ wr) _
      have HB5 := Aside0.mk (below_step HL.out.b hb5)
      have HRD5 : Aside0 (ReadsInt W5 .u32 (some ⟨wr.heap.size, 0, none⟩) 1 [x]) := ⟨by rw [← hW5]; exact reads_blk (xs := [x]) (heap_alloc_new wr _) 1 (by simp) (by omega)⟩
      have HZ5 := Aside0.mk ((hb5.block _ (blk_lt HL.out.z)).trans HL.out.z)
      have HN5 := Aside0.mk ((hb5.block _ (blk_lt HL.out.n)).trans HL.out.n)
      clear htk hx hb5
      go_wp2_with (at_builtin; refine print_append_row (w0 := w) w.heap.size rfl (.tmp 23) (.tmp 26) 39 102 .u32 4 rfl Try.underlying39 info32b (by decide) v (xs.take i) [x] (some ⟨wr.heap.size, 0, none⟩) 1 1 rfl rfl HOW5.out HRD5.out HB5.out HB5.out.size (by have := HTL.out; omega) ?_; intro v1 w6 hown6 hb6 hg6' hat6; obtain ⟨m6, hm6⟩ : ∃ m6, (xs.take i ++ [x]).length = m6 := ⟨_, rfl⟩; have HM6 := Aside0.mk hm6; rw [hm6] at hown6; clear hm6; obtain ⟨A6, c6, hv6⟩ := own_slice hown6; subst hv6; have hn6 := grown_blk hg6' HN5.out (own_ne HOW5.out HN5.out (by decide)); have hz6 := grown_blk hg6' HZ5.out (own_ne HOW5.out HZ5.out (by decide)); clear d0 d1 e0 e1; obtain ⟨d0, d1, e0, e1⟩ := two_cells hn6; have HOW6 := Aside0.mk hown6; have HB6 := Aside0.mk hb6; have HN6 := Aside0.mk hn6; have HZ6 := Aside0.mk hz6; clear hown6 hb6 hn6 hz6 hg6' hat6)
      have HFI := Aside0.mk (show Nl w (w6.setCell ⟨g8, 1, none⟩ (.slice A6 m6 c6)) g6 g8 neg (.slice A6 m6 c6) (xs.take (i + 1)) from ⟨Mods.blk ((Mods.refl (fun k => k = g8) w6).setCell (p := ⟨g8, 1, none⟩) (.inl rfl) _) HZ6.out HNE.out, blk_put HN6.out 1 _ rfl, by rw [HTK.out, HM6.out]; exact own_setCell HOW6.out (p := ⟨g8, 1, none⟩) (own_ne HOW6.out HN6.out (by decide)) (.slice A6 m6 c6), HB6.out.setCell HG.out.2 _⟩)
      go_roundg (len - (i + 1))
      case measure => omega
      case rel => exact ⟨i + 1, _, rfl, by omega, by go_num, HFI⟩
    · obtain rfl : i = len := by omega
      have b1 : ¬ (i : Int) < (i : Int) := by omega
      have hall : xs.take i = xs := by rw [← HLEN.out, List.take_length]
      rw [hall] at HL
      obtain ⟨A3, c3, hv3⟩ := own_slice HL.out.o
      subst hv3
      rw [HLEN.out] at HL
      have hRR : RL wr w.heap.size A3 c3 xs := by
        have q := HL.out.o
        rw [← HLEN.out] at q
        have : Kd.R (Kd.int .u32) 102 wr w.heap.size (fun _ => True) (.slice A3 xs.length c3) xs := Kd.R_of_own (enc := Value.int .u32) (by simpa [nums, encs] using q) (fun _ _ => trivial)
        exact this
      have HRR := Aside0.mk hRR
      have hzz := HL.out.z
      have hnn := HL.out.n
      have HCK := Aside0.mk (fun W (hb : Below wr.heap.size wr W) => (show Calls Try.prog 70 #[.agg #[.bool neg, .slice A3 i c3]] W fun e w' => e = .returned (.bool true) ∧ Below W.heap.size W w' from by have q := num_Check.calls neg A3 c3 xs true W (Kd.C_below (Kd.R_reads' hRR).2.2 hb) (Kd.R_reads' hRR).2.1 HK.out; rw [HLEN.out] at q; exact q))
      have HZZ := Aside0.mk hzz
      have HNN := Aside0.mk hnn
      have HBW := Aside0.mk HL.out.b
      have b3 : (0 : Int) < (i : Int) := by omega
      obtain ⟨Y, hY⟩ : ∃ Y, wr = Y := ⟨_, rfl⟩
      rw [hY] at HCK HZZ HNN HBW HRR
      clear hRR hzz hnn HL
      go_wp2_with fail
      clear hY
      have HBB := Aside0.mk (below_drew (Below.refl Y.heap.size Y))
      refine start_ (n := 11) (S := fun w' => Below Y.heap.size Y w') (ds := [9]) #[false, false, false, false, false, false, false, false, false, false, false] (by kernel_rfl) rfl rfl HBB.out (fun hHeld => ?_); refine with_tabW tab9 bits9 (fun HT_ HW_ => ?_)
      generalize Y.drew = wd at HBB hHeld ⊢
      refine take_ (i := 0) (N := (some 30)) (v := (.agg #[.bool neg, .slice A3 i c3])) (a' := ?_) #[true, false, false, false, false, false, false, false, false, false, false] rfl rfl (take_ofW HT_.out HW_.out (by kernel_rfl)) (fun _ _ _ h => h) (Or.inl ⟨by rfl, ?_⟩) hHeld ?_ ?_
      · (intro w' hs; obtain ⟨d0, d1, _, _⟩ := two_cells ((hs.block _ (blk_lt HNN.out)).trans HNN.out); go_simp)
      rotate_left; (simp only [Act.put, List.setIfInBounds_toArray, List.set_cons_zero, List.set_cons_succ, i64_w, i32_w]; rfl)
      refine pure_ (i := 1) (N := (some 31)) (v := ?_) (a' := ?_) #[true, true, false, false, false, false, false, false, false, false, false] rfl rfl (any_of HT_.out (by kernel_rfl)) (fun _ _ _ h => h) (Or.inl ⟨by rfl, ?_⟩) ?_ ?_
      rotate_left; (intro w'; go_simp; with_reducible rfl)
      rotate_left; (simp only [Act.put, List.setIfInBounds_toArray, List.set_cons_zero, List.set_cons_succ, i64_w, i32_w]; rfl)
      refine take_ (i := 2) (N := (some 32)) (v := (.agg #[.bool neg, .slice A3 i c3])) (a' := ?_) #[true, true, true, false, false, false, false, false, false, false, false] rfl rfl (take_ofW HT_.out HW_.out (by kernel_rfl)) (fun _ _ _ h => h) (Or.inl ⟨by rfl, ?_⟩) hHeld ?_ ?_
      · (intro w' hs; obtain ⟨d0, d1, _, _⟩ := two_cells ((hs.block _ (blk_lt HNN.out)).trans HNN.out); go_simp)
      rotate_left; (simp only [Act.put, List.setIfInBounds_toArray, List.set_cons_zero, List.set_cons_succ, i64_w, i32_w]; rfl)
      refine one_ (i := 3) (N := (some 33)) #[true, true, true, true, false, false, false, false, false, false, false] rfl rfl (one_of HT_.out (by kernel_rfl)) (by decide) (fun K hK => ?_)
      refine goes_ Try.func70 (by kernel_rfl) rfl #[.agg #[.bool neg, .slice A3 i c3]] (by rfl) rfl rfl (by (try simp only [List.map_toArray, List.map_cons, List.map_nil]); first | done | rfl) ?_
      refine (HCK.out _ HBB.out).mono ?_
      rintro e wn ⟨rfl, hb⟩
      refine ⟨_, rfl, ?_⟩
      have n0_ := Aside0.mk (below_step HBB.out hb)
      clear HBB hHeld hb
      have HBB := n0_
      clear n0_
      refine hK.out _ _ HBB.out (fun hHeld => ?_)
      clear hK K
      refine norm_ (a' := ?_) ?_ ?_
      rotate_left
      · show Act.put _ (some 33) _ = _
        simp only [Act.put, List.setIfInBounds_toArray, List.set_cons_zero, List.set_cons_succ, i64_w, i32_w]
        rfl
      refine pure_ (i := 4) (N := (some 34)) (v := ?_) (a' := ?_) #[true, true, true, true, true, false, false, false, false, false, false] rfl rfl (any_of HT_.out (by kernel_rfl)) (fun _ _ _ h => h) (Or.inl ⟨by rfl, ?_⟩) ?_ ?_
      rotate_left; (intro w'; go_simp; with_reducible rfl)
      rotate_left; (simp only [Act.put, List.setIfInBounds_toArray, List.set_cons_zero, List.set_cons_succ, i64_w, i32_w]; rfl)
      refine pure_ (i := 5) (N := (some 35)) (v := ?_) (a' := ?_) #[true, true, true, true, true, true, false, false, false, false, false] rfl rfl (any_of HT_.out (by kernel_rfl)) (fun _ _ _ h => h) (Or.inl ⟨by rfl, ?_⟩) ?_ ?_
      rotate_left; (intro w'; go_simp; with_reducible rfl)
      rotate_left; (simp only [Act.put, List.setIfInBounds_toArray, List.set_cons_zero, List.set_cons_succ, i64_w, i32_w]; rfl)
      refine pure_ (i := 6) (N := (some 36)) (v := ?_) (a' := ?_) #[true, true, true, true, true, true, true, false, false, false, false] rfl rfl (any_of HT_.out (by kernel_rfl)) (fun _ _ _ h => h) (Or.inl ⟨by rfl, ?_⟩) ?_ ?_
      rotate_left; (intro w'; go_simp; with_reducible rfl)
      rotate_left; (simp only [Act.put, List.setIfInBounds_toArray, List.set_cons_zero, List.set_cons_succ, i64_w, i32_w]; rfl)
      refine pure_ (i := 7) (N := (some 37)) (v := ?_) (a' := ?_) #[true, true, true, true, true, true, true, true, false, false, false] rfl rfl (any_of HT_.out (by kernel_rfl)) (fun _ _ _ h => h) (Or.inl ⟨by rfl, ?_⟩) ?_ ?_
      rotate_left; (intro w'; go_simp; with_reducible rfl)
      rotate_left; (simp only [Act.put, List.setIfInBounds_toArray, List.set_cons_zero, List.set_cons_succ, i64_w, i32_w]; rfl)
      refine pure_ (i := 8) (N := (some 38)) (v := ?_) (a' := ?_) #[true, true, true, true, true, true, true, true, true, false, false] rfl rfl (any_of HT_.out (by kernel_rfl)) (fun _ _ _ h => h) (Or.inl ⟨by rfl, ?_⟩) ?_ ?_
      rotate_left; (intro w'; go_simp; with_reducible rfl)
      rotate_left; (simp only [Act.put, List.setIfInBounds_toArray, List.set_cons_zero, List.set_cons_succ, i64_w, i32_w]; rfl)
      obtain ⟨c0, c1, c2, c3_, c4, c5⟩ := six_cells ((HBB.out.block _ (blk_lt HZZ.out)).trans HZZ.out)
      obtain ⟨z0, z1, z2, z3, z4, z5⟩ := six_live ((HBB.out.block _ (blk_lt HZZ.out)).trans HZZ.out)
      refine last_ (i := 9) (N := none) #[true, true, true, true, true, true, true, true, true, true, false] rfl rfl (one_of HT_.out (by kernel_rfl)) (by decide) (fun K hK => ?_)
      refine skip_ (w1 := ?_) (by rfl) rfl ?_ ?_
      rotate_left
      · go_simp
        rfl
      refine hK.out _ _ ?_
      clear hK K
      refine pure_ (i := 10) (N := (some 7)) (v := ?_) (a' := ?_) #[true, true, true, true, true, true, true, true, true, true, true] rfl rfl (any_of HT_.out (by kernel_rfl)) (fun _ _ _ h => h) (Or.inl ⟨by rfl, ?_⟩) ?_ ?_
      rotate_left; (intro w'; go_simp; with_reducible rfl)
      rotate_left; (simp only [Act.put, List.setIfInBounds_toArray, List.set_cons_zero, List.set_cons_succ, i64_w, i32_w]; rfl)
      refine done_ (done_of HT_.out (by kernel_rfl)) ?_
      have hz9 := (HBB.out.block _ (blk_lt HZZ.out)).trans HZZ.out
      have hq9 := Kd.R_types (Kd.R_below HRR.out HBB.out) hz9 (by decide)
      go_wp2_with fail
      refine bodyPost_ret (results_cell2 rfl _ _ g6 43 #[.int .i64 1, .bool neg, .slice A3 i c3, .string ⟨#[]⟩, .int .i64 0, .slice none 0 0] (0, 0) _ rfl (six_put hz9) Try.underlying43 rfl (by kernel_rfl)) rfl ?_
      exact ⟨A3, c3, rfl, six_R hq9 g6 _ _ _ _ _ _ (fun _ hk => hk.2), below_six (below_step HBW.out HBB.out) HG.out.1⟩
end Go.Proofs.YtlifdpfhepamfaaRn
namespace Go.Proofs.YtlifdpfhepamfaaRx
open Go.RowKit Go.Maps Go.Proofs.YtlifdpfhepamfaaW.PrintWords Go.Proofs.YtlifdpfhepamfaaW.PrintLast Go.Proofs.YtlifdpfhepamfaaW.PrintMore Go.Proofs.YtlifdpfhepamfaaMem Go.Proofs.YtlifdpfhepamfaaLeaf Go.Proofs.YtlifdpfhepamfaaBits Go.Proofs.Ytlifdpfhepamfaa.PHe Go.Proofs.YtlifdpfhepamfaaRow Go.Proofs.YtlifdpfhepamfaaAr Go.Proofs.YtlifdpfhepamfaaHp Go.Proofs.YtlifdpfhepamfaaHn Go.Proofs.YtlifdpfhepamfaaHo Go.Proofs.YtlifdpfhepamfaaWd Go.Proofs.YtlifdpfhepamfaaRd Go.Proofs.YtlifdpfhepamfaaRt Go.Proofs.YtlifdpfhepamfaaRn Go.Proofs
set_option linter.unusedVariables false
set_option linter.unusedSimpArgs false
set_option maxHeartbeats 8000000 in
set_option maxRecDepth 100000 in
theorem box_num (w : World) (B h g gw m : Nat) (v : Value) (l : List Int) (n : Nat) (ns : List ByteArray) (r : Nat) (lf : Int) (at_ : Nat) (neg : Bool) (kd : Int) (xs : List Int) (hkd : (neg = false ∧ kd = 2) ∨ (neg = true ∧ kd = 3)) (H : Hp B w h g gw m v l n ns) (hr : w.heap[r]? = some (rdB h lf))
    (hu32 : U32 xs) (hl0 : 0 < xs.length) (hl12 : xs.length ≤ 12) (hck : num_Check.f neg xs = some true) (hbx : LiesBox l at_ kd xs) :
    Calls Try.prog 140 #[.pointer (some ⟨r, 0, none⟩), .int .i64 (at_ : Int)] w fun e w' => ∃ A' c', e = .returned (.tuple #[tv 1 neg A' xs.length c' ⟨#[]⟩ 0 none 0 0, .bool true]) ∧ RL w' w.heap.size A' c' xs ∧ Below w.heap.size w w' := by
  have hkb : 0 ≤ kd ∧ kd < 16 := by rcases hkd with ⟨_, rfl⟩ | ⟨_, rfl⟩ <;> omega
  obtain ⟨hx1, hx2, hx3⟩ := hbx.head
  have hn := H.ar.2.2.1
  have hn2 := H.ar.2.2.2.1
  obtain ⟨k, hk⟩ : ∃ k, xs.length = k := ⟨_, rfl⟩
  rw [hk] at hx1 hx2 hx3
  have hwa : wordA l (at_ : Int) = headW kd k := by unfold wordA; rw [if_pos (by omega), Int.toNat_natCast, hx2]
  have hho := headOf_eq (headW kd k) (by unfold headW; omega) (by unfold headW; omega)
  rw [headOf_headW kd k (by omega)] at hho
  obtain ⟨W0, hW0⟩ : ∃ W0, w.alloc (.cells #[.int .i64 0, .bool false, .slice none 0 0, .string ⟨#[]⟩, .int .i64 0, .slice none 0 0] 43) = W0 := ⟨_, rfl⟩
  obtain ⟨gr, hgr⟩ : ∃ gr, w.heap.size = gr := ⟨_, rfl⟩
  have hr0 : W0.heap[gr]? = some z6 := by rw [← hW0, ← hgr]; exact heap_alloc_new _ _
  have hb0 : Below w.heap.size w W0 := by rw [← hW0]; exact below_alloc (Below.refl _ _) _
  have HB0 := Aside0.mk hb0
  have HR0 := Aside0.mk hr0
  have HH0 := Aside0.mk (H.below hb0)
  have hrr : W0.heap[r]? = some (rdB h lf) := (hb0.block _ (blk_lt hr)).trans hr
  have HRR := Aside0.mk hrr
  have c0 : W0.cell? ⟨r, 0, none⟩ = some (.pointer (some ⟨h, 0, none⟩)) := (blk_cell hrr 0).trans rfl
  obtain ⟨d0, _, _, _⟩ := HH0.out.cells
  have hq := Go.Proofs.YtlifdpfhepamfaaAr.word_calls W0 g gw n l (at_ : Int) HH0.out.ar
  rw [hwa] at hq
  have HQ := Aside0.mk hq
  have HHO := Aside0.mk (fun W => word_HeadOf.calls (headW kd k) kd (k : Int) true W hho)
  have HWS := Aside0.mk (fun W (hbl : Below w.heap.size w W) => (show Calls Try.prog 154 #[.pointer (some ⟨r, 0, none⟩), .int .i64 (at_ : Int), .int .i64 1, .int .i64 (k : Int)] W (WordsPost W k ((l.drop (at_ + 1)).take k)) from words_calls W B h g gw m v l n ns r lf at_ 1 k (H.below hbl) ((hbl.block _ (blk_lt hr)).trans hr) (by omega)))
  rw [hx3] at HWS
  have HK := Aside0.mk hk
  have HBI := Aside0.mk (fun (W : World) (rv : Value) A c hrd hc => rnum_calls W rv neg A c xs hrd hc hu32 hl0 hl12 hck)
  rw [hk] at HBI ⊢
  generalize headW kd k = hw at HQ HHO
  clear H hr hb0 hr0 hrr hx1 hx2 hx3 hwa hho hbx hq hk hu32 hl0 hl12 hck hkb
  rcases hkd with ⟨rfl, rfl⟩ | ⟨rfl, rfl⟩
  · go_enter Try.func140, Try.ntmps140
    go_wp2_with fail
    refine HQ.out.mono ?_
    rintro e w1 ⟨rfl, nd1, rfl⟩
    go_wp2_with fail
    refine (HHO.out _).mono ?_
    rintro e w2 ⟨rfl, nd2, rfl⟩
    have HB2 := Aside0.mk (show Below w.heap.size w (W0.drewN (nd1 + nd2)) from pw_below_drewN HB0.out (nd1 + nd2))
    clear c0 d0
    go_wp2_with fail
    refine (HWS.out _ HB2.out).mono ?_
    rintro e w3 ⟨A, c, rfl, hc, hrd, hba, hb3⟩
    have HB3 := Aside0.mk (below_step HB2.out hb3)
    have HB30 := Aside0.mk (show Below W0.heap.size W0 w3 from (pw_below_drewN (Below.refl _ W0) (nd1 + nd2)).trans hb3)
    have HBC := Aside0.mk (fun rv => HBI.out w3 rv A c hrd hc)
    clear hc hrd hba hb3 HWS HBI
    go_wp2_with fail
    refine (HBC.out _).mono ?_
    rintro e w4 ⟨A', c', rfl, hRL, hb4⟩
    have HRL := Aside0.mk (Kd.R_lower hRL HB3.out.size)
    clear hRL
    have HB4 := Aside0.mk (below_step HB3.out hb4)
    have hr4 : w4.heap[gr]? = some z6 := (hb4.block _ (blk_lt ((HB30.out.block _ (blk_lt HR0.out)).trans HR0.out))).trans ((HB30.out.block _ (blk_lt HR0.out)).trans HR0.out)
    have g0 := blk_cell hr4
    have g1 := blk_frozen hr4
    have HR4 := Aside0.mk hr4
    clear hb4 hr4 HBC
    have hq9 := Kd.R_types HRL.out HR4.out (by decide)
    unfold tv
    go_wp2_with fail
    refine bodyPost_ret (results_cell2 rfl _ _ gr 43 #[.int .i64 1, .bool false, .slice A' k c', .string ⟨#[]⟩, .int .i64 0, .slice none 0 0] (0, 0) _ rfl (six_put HR4.out) Try.underlying43 rfl (by kernel_rfl)) rfl ?_
    exact ⟨A', c', rfl, six_R hq9 gr _ _ _ _ _ _ (fun _ hk => hk.2), below_six (by first | exact HB4.out | (rw [← hgr]; exact HB4.out)) (by first | exact Nat.le_refl _ | (rw [hgr]; exact Nat.le_refl _))⟩
  · go_enter Try.func140, Try.ntmps140
    go_wp2_with fail
    refine HQ.out.mono ?_
    rintro e w1 ⟨rfl, nd1, rfl⟩
    go_wp2_with fail
    refine (HHO.out _).mono ?_
    rintro e w2 ⟨rfl, nd2, rfl⟩
    have HB2 := Aside0.mk (show Below w.heap.size w (W0.drewN (nd1 + nd2)) from pw_below_drewN HB0.out (nd1 + nd2))
    clear c0 d0
    go_wp2_with fail
    refine (HWS.out _ HB2.out).mono ?_
    rintro e w3 ⟨A, c, rfl, hc, hrd, hba, hb3⟩
    have HB3 := Aside0.mk (below_step HB2.out hb3)
    have HB30 := Aside0.mk (show Below W0.heap.size W0 w3 from (pw_below_drewN (Below.refl _ W0) (nd1 + nd2)).trans hb3)
    have HBC := Aside0.mk (fun rv => HBI.out w3 rv A c hrd hc)
    clear hc hrd hba hb3 HWS HBI
    go_wp2_with fail
    refine (HBC.out _).mono ?_
    rintro e w4 ⟨A', c', rfl, hRL, hb4⟩
    have HRL := Aside0.mk (Kd.R_lower hRL HB3.out.size)
    clear hRL
    have HB4 := Aside0.mk (below_step HB3.out hb4)
    have hr4 : w4.heap[gr]? = some z6 := (hb4.block _ (blk_lt ((HB30.out.block _ (blk_lt HR0.out)).trans HR0.out))).trans ((HB30.out.block _ (blk_lt HR0.out)).trans HR0.out)
    have g0 := blk_cell hr4
    have g1 := blk_frozen hr4
    have HR4 := Aside0.mk hr4
    clear hb4 hr4 HBC
    have hq9 := Kd.R_types HRL.out HR4.out (by decide)
    unfold tv
    go_wp2_with fail
    refine bodyPost_ret (results_cell2 rfl _ _ gr 43 #[.int .i64 1, .bool true, .slice A' k c', .string ⟨#[]⟩, .int .i64 0, .slice none 0 0] (0, 0) _ rfl (six_put HR4.out) Try.underlying43 rfl (by kernel_rfl)) rfl ?_
    exact ⟨A', c', rfl, six_R hq9 gr _ _ _ _ _ _ (fun _ hk => hk.2), below_six (by first | exact HB4.out | (rw [← hgr]; exact HB4.out)) (by first | exact Nat.le_refl _ | (rw [hgr]; exact Nat.le_refl _))⟩
set_option maxHeartbeats 8000000 in
set_option maxRecDepth 100000 in
/-- A word that leads to a box: what holds of the box's term holds behind the reader. -/
theorem term_box (w : World) (B h g gw m : Nat) (v : Value) (l : List Int) (n : Nat) (ns : List ByteArray) (r : Nat) (lf : Int) (at_ : Nat) (kd : Int) (ws : List Int) (hkd : 1 ≤ kd ∧ kd ≤ 6) (P : Value → World → Prop) (hP : ∀ V w1 w2, Mods (fun k => k = w.heap.size) w1 w2 → P V w1 → P V w2) (H : Hp B w h g gw m v l n ns) (hr : w.heap[r]? = some (rdB h lf)) (hrn : ¬ SH h g gw m v r) (hf0 : 1 ≤ lf) (hf1 : lf ≤ 2000)
    (hbx : LiesBox l at_ kd ws)
    (hbox : ∀ W, Hp B W h g gw m v l n ns → W.heap[r]? = some (rdB h (lf - 1)) → w.heap.size < W.heap.size → Calls Try.prog 140 #[.pointer (some ⟨r, 0, none⟩), .int .i64 (at_ : Int)] W fun e w' => ∃ a b A n c s N A' n' c', e = .returned (.tuple #[tv a b A n c s N A' n' c', .bool true]) ∧ P (tv a b A n c s N A' n' c') w' ∧ Below W.heap.size W w') :
    Calls Try.prog 94 #[.pointer (some ⟨r, 0, none⟩), .int .u64 (ptrW 2 at_)] w fun e w' => ∃ a b A n c s N A' n' c', e = .returned (.tuple #[tv a b A n c s N A' n' c', .bool true]) ∧ P (tv a b A n c s N A' n' c') w' ∧ Mods (fun k => k = r) w w' := by
  have hn := H.ar.2.2.1
  have hn2 := H.ar.2.2.2.1
  have hx1 := hbx.head.1
  obtain ⟨x0, x1, x2, x3, x4⟩ := ptr_bd 2 at_ (.inr rfl) (by omega)
  have hgd := good_box hbx hkd (by omega)
  have hat := at_eq _ x0 x1
  have htg := tag_eq (ptrW 2 at_)
  have hcc := isCatch_eq _ x0 x1
  rw [x3] at hat
  rw [x2] at htg
  rw [x4] at hcc
  obtain ⟨x, hx⟩ : ∃ x, ptrW 2 at_ = x := ⟨_, rfl⟩
  rw [hx] at hat htg hcc hgd x0 x1 ⊢
  obtain ⟨W0, hW0⟩ : ∃ W0, w.alloc (.cells #[.int .i64 0, .bool false, .slice none 0 0, .string ⟨#[]⟩, .int .i64 0, .slice none 0 0] 43) = W0 := ⟨_, rfl⟩
  obtain ⟨gr, hgr⟩ : ∃ gr, w.heap.size = gr := ⟨_, rfl⟩
  have hr0 : W0.heap[gr]? = some z6 := by rw [← hW0, ← hgr]; exact heap_alloc_new _ _
  have hb0 : Below w.heap.size w W0 := by rw [← hW0]; exact below_alloc (Below.refl _ _) _
  have hrr : W0.heap[r]? = some (rdB h lf) := (hb0.block _ (blk_lt hr)).trans hr
  have c1 : W0.cell? ⟨r, 1, none⟩ = some (.int .i64 lf) := (blk_cell hrr 1).trans rfl
  have f1 := blk_frozen hrr 1
  obtain ⟨W1, hW1⟩ : ∃ W1, W0.setCell ⟨r, 1, none⟩ (.int .i64 (lf - 1)) = W1 := ⟨_, rfl⟩
  have hm1 : Mods (fun k => k = r) w W1 := by rw [← hW1]; exact (Mods.of_below _ hb0).trans ((Mods.refl (fun k => k = r) W0).setCell (p := ⟨r, 1, none⟩) (.inl rfl) _)
  have hr1 : W1.heap[r]? = some (rdB h (lf - 1)) := by rw [← hW1]; exact blk_put hrr 1 _ rfl
  have hne : r ≠ gr := fun e => by have := blk_lt hr; omega
  have hg1 : W1.heap[gr]? = some z6 := by rw [← hW1]; exact (blk_far hr0 (p := ⟨r, 1, none⟩) (by first | exact hne | exact Ne.symm hne) _)
  have hh1 : Hp B W1 h g gw m v l n ns := H.mods hm1 (fun i hi e => hrn (by rw [← e]; exact hi))
  have d1 : W1.cell? ⟨r, 1, none⟩ = some (.int .i64 (lf - 1)) := (blk_cell hr1 1).trans rfl
  have d0 : W1.cell? ⟨r, 0, none⟩ = some (.pointer (some ⟨h, 0, none⟩)) := (blk_cell hr1 0).trans rfl
  have HM1 := Aside0.mk hm1
  have HR1 := Aside0.mk hr1
  have HG1 := Aside0.mk hg1
  have HAT := Aside0.mk (fun W => word_At.calls x _ W hat)
  have HTG := Aside0.mk (fun W => word_Tag.calls x _ W htg)
  have HCC := Aside0.mk (fun W => word_IsCatch.calls x 0 false W hcc)
  have HGD := Aside0.mk (fun W (hH : Hp B W h g gw m v l n ns) => good_calls W B h g gw m v l n ns x hH x0 x1)
  rw [hgd] at HGD
  have HH1 := Aside0.mk hh1
  have HBX := Aside0.mk hbox
  have HPP := Aside0.mk hP
  rw [hgr] at HPP HBX
  have hsz1 : gr < W1.heap.size := by have := blk_lt hg1; exact this
  have HSZ := Aside0.mk hsz1
  have hlt : ¬ (lf - 1 < 0) := by omega
  clear H hr hrn hbx hbox hP hsz1 hx1 hgd hat htg hcc hr0 hb0 hrr hm1 hr1 hg1 hh1 x2 x3 x4 hx
  go_enter Try.func94, Try.ntmps94
  go_wp2_with fail
  refine (HCC.out _).mono ?_
  rintro e w2 ⟨rfl, nd2, rfl⟩
  clear c1 f1
  go_wp2_with fail
  refine (HGD.out _ (HH1.out.mods ((Mods.refl (fun _ => False) W1).drewN nd2) (fun _ _ => id))).mono ?_
  rintro e w3 ⟨rfl, nd3, rfl⟩
  go_wp2_with fail
  refine (HTG.out _).mono ?_
  rintro e w4 ⟨rfl, nd4, rfl⟩
  go_wp2_with fail
  refine (HAT.out _).mono ?_
  rintro e w5 ⟨rfl, nd5, rfl⟩
  obtain ⟨W5, hW5⟩ : ∃ W5, W1.drewN (nd2 + nd3 + nd4 + nd5) = W5 := ⟨_, rfl⟩
  have hm5 : Mods (fun _ => False) W1 W5 := by rw [← hW5]; exact (Mods.refl (fun _ => False) W1).drewN _
  have h5 := HH1.out.mods hm5 (fun _ _ => id)
  have hr5 : W5.heap[r]? = some (rdB h (lf - 1)) := hm5.blk HR1.out id
  have hg5 : W5.heap[gr]? = some z6 := hm5.blk HG1.out id
  have HG5 := Aside0.mk hg5
  have HC5 := Aside0.mk (HBX.out W5 h5 hr5 (Nat.lt_of_lt_of_le HSZ.out hm5.size))
  have HM5 := Aside0.mk (HM1.out.trans (hm5.mono (S' := fun k => k = r) (fun i hi => hi.elim)))
  have HM15 := Aside0.mk hm5
  clear h5 hr5 hg5 hm5 HBX d0 d1
  go_wp2_with fail
  refine HC5.out.mono ?_
  rintro e w6 ⟨ta, tb, tA, tn, tc, ts, tN, tA', tn', tc', rfl, hp6, hb6⟩
  have HP6 := Aside0.mk hp6
  have hg6 : w6.heap[gr]? = some z6 := (hb6.block _ (blk_lt HG5.out)).trans HG5.out
  have HG6 := Aside0.mk hg6
  have HM6 := Aside0.mk (HM5.out.then_below hb6)
  have g0 := blk_cell hg6
  have g1 := blk_frozen hg6
  clear hb6 hg6 HC5
  clear hp6
  unfold tv
  go_wp2_with fail
  refine bodyPost_ret (results_cell2 rfl _ _ gr 43 #[.int .i64 ta, .bool tb, .slice tA tn tc, .string ts, .int .i64 tN, .slice tA' tn' tc'] (0, 0) _ rfl (six_put HG6.out) Try.underlying43 rfl (by kernel_rfl)) rfl ?_
  exact ⟨_, _, _, _, _, _, _, _, _, _, rfl, HPP.out _ _ _ (mods_six (Mods.refl (fun k => k = gr) _) (.inl rfl)) HP6.out, mods_six HM6.out (.inr (by first | exact Nat.le_refl _ | (rw [hgr]; exact Nat.le_refl _)))⟩
end Go.Proofs.YtlifdpfhepamfaaRx
namespace Go.Proofs.YtlifdpfhepamfaaRi
open Go.RowKit Go.Maps Go.Proofs.YtlifdpfhepamfaaW.PrintWords Go.Proofs.YtlifdpfhepamfaaW.PrintLast Go.Proofs.YtlifdpfhepamfaaW.PrintMore Go.Proofs.YtlifdpfhepamfaaMem Go.Proofs.YtlifdpfhepamfaaLeaf Go.Proofs.YtlifdpfhepamfaaBits Go.Proofs.Ytlifdpfhepamfaa.PHe Go.Proofs.YtlifdpfhepamfaaRow Go.Proofs.YtlifdpfhepamfaaAr Go.Proofs.YtlifdpfhepamfaaHp Go.Proofs.YtlifdpfhepamfaaHn Go.Proofs.YtlifdpfhepamfaaHo Go.Proofs.YtlifdpfhepamfaaWd Go.Proofs.YtlifdpfhepamfaaRd Go.Proofs.YtlifdpfhepamfaaRt Go.Proofs.YtlifdpfhepamfaaRn Go.Proofs.YtlifdpfhepamfaaRx Go.Proofs.YtlifdpfhepamfaaNof Go.Proofs
set_option linter.unusedVariables false
set_option linter.unusedSimpArgs false
theorem small_bd (z : Int) (h0 : -576460752303423488 ≤ z) (h1 : z < 576460752303423488) : 0 ≤ smallW z ∧ smallW z < 18446744073709551616 ∧ smallW z % 4 = 3 ∧ intOfI (smallW z) = (z, true) ∧ isCatchI (smallW z) = (0, false) ∧ decide (smallW z % 16 = 15) = false := by
  unfold smallW
  have e16 : (z % 1152921504606846976 * 16 + 3) % 16 = 3 := by omega
  refine ⟨by omega, by omega, by omega, ?_, ?_, ?_⟩
  · unfold intOfI
    rw [if_pos e16]
    congr 1
    unfold wrap64
    omega
  · unfold isCatchI
    rw [if_neg (by omega)]
  · rw [e16]; rfl
set_option maxHeartbeats 8000000 in
set_option maxRecDepth 100000 in
theorem term_int (w : World) (B h g gw m : Nat) (v : Value) (l : List Int) (n : Nat) (ns : List ByteArray) (r : Nat) (lf : Int) (z : Int) (H : Hp B w h g gw m v l n ns) (hr : w.heap[r]? = some (rdB h lf)) (hrn : ¬ SH h g gw m v r) (hf0 : 1 ≤ lf) (hf1 : lf ≤ 2000)
    (hz0 : -576460752303423488 ≤ z) (hz1 : z < 576460752303423488) :
    Calls Try.prog 94 #[.pointer (some ⟨r, 0, none⟩), .int .u64 (smallW z)] w fun e w' => ∃ A' c', e = .returned (.tuple #[tv 1 (decide (z < 0)) A' (limbs (absI z)).length c' ⟨#[]⟩ 0 none 0 0, .bool true]) ∧ RL w' w.heap.size A' c' (limbs (absI z)) ∧ Mods (fun k => k = r) w w' := by
  have hn := H.ar.2.2.1
  have hn2 := H.ar.2.2.2.1
  obtain ⟨x0, x1, x2, x3, x4, x5⟩ := small_bd z hz0 hz1
  have hgd : goodI l (smallW z) = true := by unfold goodI; rw [if_pos x2, x5]; rfl
  have hio := intOf_eq (smallW z)
  have htg := tag_eq (smallW z)
  have hcc := isCatch_eq _ x0 x1
  rw [x3] at hio
  rw [x2] at htg
  rw [x4] at hcc
  have HOF := Aside0.mk (fun W => of_own W z (by omega) (by omega))
  obtain ⟨L, hL⟩ : ∃ L, limbs (absI z) = L := ⟨_, rfl⟩
  rw [hL] at HOF
  obtain ⟨sg, hsg⟩ : ∃ sg, decide (z < 0) = sg := ⟨_, rfl⟩
  rw [hsg] at HOF
  rw [hL, hsg]
  obtain ⟨x, hx⟩ : ∃ x, smallW z = x := ⟨_, rfl⟩
  rw [hx] at hio htg hcc hgd x0 x1 ⊢
  obtain ⟨W0, hW0⟩ : ∃ W0, w.alloc (.cells #[.int .i64 0, .bool false, .slice none 0 0, .string ⟨#[]⟩, .int .i64 0, .slice none 0 0] 43) = W0 := ⟨_, rfl⟩
  obtain ⟨gr, hgr⟩ : ∃ gr, w.heap.size = gr := ⟨_, rfl⟩
  have hr0 : W0.heap[gr]? = some z6 := by rw [← hW0, ← hgr]; exact heap_alloc_new _ _
  have hb0 : Below w.heap.size w W0 := by rw [← hW0]; exact below_alloc (Below.refl _ _) _
  have hrr : W0.heap[r]? = some (rdB h lf) := (hb0.block _ (blk_lt hr)).trans hr
  have c1 : W0.cell? ⟨r, 1, none⟩ = some (.int .i64 lf) := (blk_cell hrr 1).trans rfl
  have f1 := blk_frozen hrr 1
  obtain ⟨W1, hW1⟩ : ∃ W1, W0.setCell ⟨r, 1, none⟩ (.int .i64 (lf - 1)) = W1 := ⟨_, rfl⟩
  have hm1 : Mods (fun k => k = r) w W1 := by rw [← hW1]; exact (Mods.of_below _ hb0).trans ((Mods.refl (fun k => k = r) W0).setCell (p := ⟨r, 1, none⟩) (.inl rfl) _)
  have hr1 : W1.heap[r]? = some (rdB h (lf - 1)) := by rw [← hW1]; exact blk_put hrr 1 _ rfl
  have hne : r ≠ gr := fun e => by have := blk_lt hr; omega
  have hg1 : W1.heap[gr]? = some z6 := by rw [← hW1]; exact (blk_far hr0 (p := ⟨r, 1, none⟩) (by first | exact hne | exact Ne.symm hne) _)
  have hh1 : Hp B W1 h g gw m v l n ns := H.mods hm1 (fun i hi e => hrn (by rw [← e]; exact hi))
  have d1 : W1.cell? ⟨r, 1, none⟩ = some (.int .i64 (lf - 1)) := (blk_cell hr1 1).trans rfl
  have d0 : W1.cell? ⟨r, 0, none⟩ = some (.pointer (some ⟨h, 0, none⟩)) := (blk_cell hr1 0).trans rfl
  have HM1 := Aside0.mk hm1
  have HR1 := Aside0.mk hr1
  have HG1 := Aside0.mk hg1
  have HIO := Aside0.mk (fun W => word_IntOf.calls x z true W hio)
  have HTG := Aside0.mk (fun W => word_Tag.calls x _ W htg)
  have HCC := Aside0.mk (fun W => word_IsCatch.calls x 0 false W hcc)
  have HGD := Aside0.mk (fun W (hH : Hp B W h g gw m v l n ns) => good_calls W B h g gw m v l n ns x hH x0 x1)
  rw [hgd] at HGD
  have HH1 := Aside0.mk hh1
  have hlt : ¬ (lf - 1 < 0) := by omega
  clear H hr hrn hgd hio htg hcc hL hsg hr0 hb0 hrr hm1 hr1 hg1 hh1 x2 x3 x4 x5 hx
  go_enter Try.func94, Try.ntmps94
  go_wp2_with fail
  refine (HCC.out _).mono ?_
  rintro e w2 ⟨rfl, nd2, rfl⟩
  clear c1 f1
  go_wp2_with fail
  refine (HGD.out _ (HH1.out.mods ((Mods.refl (fun _ => False) W1).drewN nd2) (fun _ _ => id))).mono ?_
  rintro e w3 ⟨rfl, nd3, rfl⟩
  go_wp2_with fail
  refine (HTG.out _).mono ?_
  rintro e w4 ⟨rfl, nd4, rfl⟩
  go_wp2_with fail
  refine (HIO.out _).mono ?_
  rintro e w5 ⟨rfl, nd5, rfl⟩
  obtain ⟨W5, hW5⟩ : ∃ W5, W1.drewN (nd2 + nd3 + nd4 + nd5) = W5 := ⟨_, rfl⟩
  have hm5 : Mods (fun _ => False) W1 W5 := by rw [← hW5]; exact (Mods.refl (fun _ => False) W1).drewN _
  have h5 := HH1.out.mods hm5 (fun _ _ => id)
  have hr5 : W5.heap[r]? = some (rdB h (lf - 1)) := hm5.blk HR1.out id
  have hg5 : W5.heap[gr]? = some z6 := hm5.blk HG1.out id
  have HG5 := Aside0.mk hg5
  have HM5 := Aside0.mk (HM1.out.trans (hm5.mono (S' := fun k => k = r) (fun i hi => hi.elim)))
  have HM15 := Aside0.mk hm5
  clear h5 hr5 hg5 hm5 d0 d1
  go_wp2_with fail
  refine (HOF.out _).mono ?_
  rintro e w6 ⟨u6, rfl, hRL, hb6⟩
  obtain ⟨A', c', rfl⟩ := Kd.R_slice hRL
  have hg6 : w6.heap[gr]? = some z6 := (hb6.block _ (blk_lt HG5.out)).trans HG5.out
  have HG6 := Aside0.mk hg6
  have HRL := Aside0.mk (Kd.R_lower hRL (show w.heap.size ≤ W5.heap.size from HM5.out.size))
  have HM6 := Aside0.mk (HM5.out.then_below hb6)
  have hq9 := Kd.R_types HRL.out HG6.out (by decide)
  have g0 := blk_cell hg6
  have g1 := blk_frozen hg6
  clear hb6 hg6 hRL
  go_wp2_with fail
  refine bodyPost_ret (results_cell2 rfl _ _ gr 43 #[.int .i64 1, .bool sg, .slice A' L.length c', .string ⟨#[]⟩, .int .i64 0, .slice none 0 0] (0, 0) _ rfl (six_put HG6.out) Try.underlying43 rfl (by kernel_rfl)) rfl ?_
  exact ⟨A', c', rfl, six_R hq9 gr _ _ _ _ _ _ (fun _ hk => hk.2), mods_six HM6.out (.inr (by first | exact Nat.le_refl _ | (rw [hgr]; exact Nat.le_refl _)))⟩
end Go.Proofs.YtlifdpfhepamfaaRi
namespace Go.Proofs.YtlifdpfhepamfaaRg
open Go.RowKit Go.Maps Go.Proofs.YtlifdpfhepamfaaW.PrintWords Go.Proofs.YtlifdpfhepamfaaW.PrintLast Go.Proofs.YtlifdpfhepamfaaW.PrintMore Go.Proofs.YtlifdpfhepamfaaMem Go.Proofs.YtlifdpfhepamfaaLeaf Go.Proofs.YtlifdpfhepamfaaBits Go.Proofs.Ytlifdpfhepamfaa.PHe Go.Proofs.YtlifdpfhepamfaaRow Go.Proofs.YtlifdpfhepamfaaAr Go.Proofs.YtlifdpfhepamfaaHp Go.Proofs.YtlifdpfhepamfaaHn Go.Proofs.YtlifdpfhepamfaaHo Go.Proofs.YtlifdpfhepamfaaWd Go.Proofs.YtlifdpfhepamfaaRd Go.Proofs.YtlifdpfhepamfaaRt Go.Proofs.YtlifdpfhepamfaaRn Go.Proofs.YtlifdpfhepamfaaRx Go.Proofs.YtlifdpfhepamfaaRi Go.Proofs.YtlifdpfhepamfaaNof Go.Proofs
set_option linter.unusedVariables false
set_option linter.unusedSimpArgs false
theorem kept_mods {S : Nat → Prop} {W W1 : World} (h : Mods S W W1) : Kept W W1 S := ⟨h.size, fun i hi hn => h.block i hi hn⟩
theorem rl_mods {W W1 : World} {b : Nat} {A : Option Addr} {c : Nat} {xs : List Int} {S : Nat → Prop} (h : RL W b A c xs) (hm : Mods S W W1) (hS : ∀ k, b ≤ k → ¬ S k) : RL W1 b A c xs :=
  Kd.R_mono (Kd.R_keptB (Kd.R_reok (ok := fun k => b ≤ k) rfl h (fun k hk => Kd.R_base h k hk)) (kept_mods hm) (fun k hk hs => hS k hk hs)) (fun _ _ => trivial)
theorem get_small (w : World) (B h g gw m : Nat) (v : Value) (l : List Int) (n : Nat) (ns : List ByteArray) (z : Int) (H : Hp B w h g gw m v l n ns) (hz0 : -576460752303423488 ≤ z) (hz1 : z < 576460752303423488) :
    Calls Try.prog 42 #[.pointer (some ⟨h, 0, none⟩), .int .u64 (smallW z)] w fun e w' => ∃ A c, e = .returned (.tuple #[tv 1 (decide (z < 0)) A (limbs (absI z)).length c ⟨#[]⟩ 0 none 0 0, .bool true]) ∧ RL w' (w.heap.size + 1) A c (limbs (absI z)) ∧ Below w.heap.size w w' := by
  refine (get_ok w h _ (fun V w' => ∃ A c, V = tv 1 (decide (z < 0)) A (limbs (absI z)).length c ⟨#[]⟩ 0 none 0 0 ∧ RL w' (w.heap.size + 1) A c (limbs (absI z))) ?_ ?_).mono ?_
  · rintro V w1 w2 hm ⟨A, c, rfl, hR⟩
    exact ⟨A, c, rfl, rl_mods hR hm (fun k hk e => by omega)⟩
  · intro W r hb hr hW
    refine (term_int W B h g gw m v l n ns r 2000 z (H.below hb) hW (fun hs => by have := (H.foot r hs).2; omega) (by omega) (by omega) hz0 hz1).mono ?_
    rintro e w' ⟨A', c', rfl, hR, hm⟩
    exact ⟨_, _, _, _, _, _, _, _, _, _, rfl, hm, A', c', rfl, Kd.R_lower hR (by have := blk_lt hW; omega)⟩
  · rintro e w' ⟨V, rfl, hb, A, c, rfl, hR⟩
    exact ⟨A, c, rfl, hR, hb⟩
theorem get_box (w : World) (B h g gw m : Nat) (v : Value) (l : List Int) (n : Nat) (ns : List ByteArray) (at_ : Nat) (neg : Bool) (kd : Int) (xs : List Int) (hkd : (neg = false ∧ kd = 2) ∨ (neg = true ∧ kd = 3)) (H : Hp B w h g gw m v l n ns)
    (hu32 : U32 xs) (hl0 : 0 < xs.length) (hl12 : xs.length ≤ 12) (hck : num_Check.f neg xs = some true) (hbx : LiesBox l at_ kd xs) :
    Calls Try.prog 42 #[.pointer (some ⟨h, 0, none⟩), .int .u64 (ptrW 2 at_)] w fun e w' => ∃ A c, e = .returned (.tuple #[tv 1 neg A xs.length c ⟨#[]⟩ 0 none 0 0, .bool true]) ∧ RL w' (w.heap.size + 1) A c xs ∧ Below w.heap.size w w' := by
  have hkb : 1 ≤ kd ∧ kd ≤ 6 := by rcases hkd with ⟨_, rfl⟩ | ⟨_, rfl⟩ <;> omega
  refine (get_ok w h _ (fun V w' => ∃ A c, V = tv 1 neg A xs.length c ⟨#[]⟩ 0 none 0 0 ∧ RL w' (w.heap.size + 1) A c xs) ?_ ?_).mono ?_
  · rintro V w1 w2 hm ⟨A, c, rfl, hR⟩
    exact ⟨A, c, rfl, rl_mods hR hm (fun k hk e => by omega)⟩
  · intro W r hb hr hW
    have hrW := blk_lt hW
    refine (term_box W B h g gw m v l n ns r 2000 at_ kd xs hkb (fun V w' => ∃ A c, V = tv 1 neg A xs.length c ⟨#[]⟩ 0 none 0 0 ∧ RL w' (W.heap.size + 1) A c xs) ?_ (H.below hb) hW (fun hs => by have := (H.foot r hs).2; omega) (by omega) (by omega) hbx ?_).mono ?_
    · rintro V w1 w2 hm ⟨A, c, rfl, hR⟩
      exact ⟨A, c, rfl, rl_mods hR hm (fun k hk e => by omega)⟩
    · intro W' hH hr' hlt
      refine (box_num W' B h g gw m v l n ns r (2000 - 1) at_ neg kd xs hkd hH hr' hu32 hl0 hl12 hck hbx).mono ?_
      rintro e w' ⟨A', c', rfl, hR, hb'⟩
      exact ⟨_, _, _, _, _, _, _, _, _, _, rfl, ⟨A', c', rfl, Kd.R_lower hR (by omega)⟩, hb'⟩
    · rintro e w' ⟨a, b, A, n', c, s, N, A', n'', c', rfl, ⟨A1, c1, e1, hR⟩, hm⟩
      exact ⟨_, _, _, _, _, _, _, _, _, _, rfl, hm, A1, c1, e1, Kd.R_lower hR (by omega)⟩
  · rintro e w' ⟨V, rfl, hb, A, c, rfl, hR⟩
    exact ⟨A, c, rfl, hR, hb⟩
end Go.Proofs.YtlifdpfhepamfaaRg
