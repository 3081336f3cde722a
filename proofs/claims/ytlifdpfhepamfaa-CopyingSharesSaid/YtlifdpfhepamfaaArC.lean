/- The contracts of the package arena's functions: an arena is a list of used words and a size. -/
import Derived.Test.YtlifdpfhepamfaaMem
import Derived.Test.YtlifdpfhepamfaaBits
namespace Go.Proofs.YtlifdpfhepamfaaAr
open Go.RowKit Go.Proofs.YtlifdpfhepamfaaW.PrintWords Go.Proofs.YtlifdpfhepamfaaW.PrintLast Go.Proofs.YtlifdpfhepamfaaW.PrintMore Go.Proofs.YtlifdpfhepamfaaMem Go.Proofs.YtlifdpfhepamfaaBits Go.Proofs
attribute [local go_sem] max2_int min2_int max_two min_two max_three min_three max_four min_four
set_option linter.unusedVariables false
set_option linter.unusedSimpArgs false
theorem info64 : (Try.prog.info? 25).map (fun i => (i.zero, i.size, i.bytes)) = some (some (.int .u64 0), 1, 8) := by kernel_rfl

/-- The words are words. -/
def W64 (l : List Int) : Prop := ∀ x, x ∈ l → 0 ≤ x ∧ x < 18446744073709551616
/-- An arena at block g, its words at block gw: l is used, n is its size. -/
def Ar (w : World) (g gw : Nat) (l : List Int) (n : Nat) : Prop :=
  w.heap[g]? = some (.cells #[.slice (some ⟨gw, 0, none⟩) n n, .int .i64 (l.length : Nat)] 118 (0, 0)) ∧
  w.heap[gw]? = some (.cells (nums .u64 (l ++ List.replicate (n - l.length) 0)).toArray 25 (0, 0)) ∧ l.length ≤ n ∧ n ≤ 32768 ∧ W64 l

section
variable {w w' : World} {g gw n : Nat} {l : List Int} {S : Nat → Prop}
theorem Ar.mods (h : Ar w g gw l n) (k : Mods S w w') (h1 : ¬ S g) (h2 : ¬ S gw) : Ar w' g gw l n := ⟨k.blk h.1 h1, k.blk h.2.1 h2, h.2.2⟩
theorem Ar.below (h : Ar w g gw l n) (k : Below w.heap.size w w') : Ar w' g gw l n := h.mods (Mods.of_below (fun _ => False) k) id id
theorem Ar.drewN (h : Ar w g gw l n) (m : Nat) : Ar (w.drewN m) g gw l n := h
theorem Ar.lt (h : Ar w g gw l n) : g < w.heap.size ∧ gw < w.heap.size := ⟨blk_lt h.1, blk_lt h.2.1⟩
theorem Ar.ne (h : Ar w g gw l n) : g ≠ gw := blk_ne h.1 h.2.1 (by decide)
theorem Ar.c0 (h : Ar w g gw l n) : w.cell? ⟨g, 0, none⟩ = some (.slice (some ⟨gw, 0, none⟩) n n) := (blk_cell h.1 0).trans rfl
theorem Ar.c1 (h : Ar w g gw l n) : w.cell? ⟨g, 1, none⟩ = some (.int .i64 (l.length : Nat)) := (blk_cell h.1 1).trans rfl
theorem Ar.f1 (h : Ar w g gw l n) : w.frozen? ⟨g, 1, none⟩ = false := blk_frozen h.1 1
theorem Ar.at_ (h : Ar w g gw l n) (i : Nat) (hi : i < l.length) : w.cell? ⟨gw, i, none⟩ = some (.int .u64 (l.getD i 0)) := by
  rw [nums_cell h.2.1 i (by rw [List.length_append]; omega)]
  simp [List.getElem?_append_left hi, List.getD_eq_getElem?_getD]
theorem Ar.fz (h : Ar w g gw l n) (i : Nat) : w.frozen? ⟨gw, i, none⟩ = false := blk_frozen h.2.1 i
end

/-- What Alloc makes of the list. -/
def okA (l : List Int) (n : Nat) (k : Int) : Bool := decide (0 ≤ k ∧ k ≤ (n : Int) - l.length)
def resA (l : List Int) (n : Nat) (k : Int) : List Int := if okA l n k then l ++ List.replicate k.toNat 0 else l
def atA (l : List Int) (n : Nat) (k : Int) : Int := if okA l n k then l.length else 0
theorem W64.app {l : List Int} (h : W64 l) (k : Nat) : W64 (l ++ List.replicate k 0) := by
  intro x hx
  rcases List.mem_append.1 hx with hx | hx
  · exact h x hx
  · rw [List.eq_of_mem_replicate hx]; omega
theorem W64.set {l : List Int} (h : W64 l) (i : Nat) (v : Int) (h0 : 0 ≤ v) (h1 : v < 18446744073709551616) : W64 (l.set i v) := by
  intro x hx
  rcases List.mem_or_eq_of_mem_set hx with hx | rfl
  · exact h x hx
  · exact ⟨h0, h1⟩
theorem W64.getD {l : List Int} (h : W64 l) (i : Nat) : 0 ≤ l.getD i 0 ∧ l.getD i 0 < 18446744073709551616 := by
  rw [List.getD_eq_getElem?_getD]
  rcases Nat.lt_or_ge i l.length with hi | hi
  · rw [List.getElem?_eq_getElem hi]; exact h _ (List.getElem_mem hi)
  · rw [List.getElem?_eq_none hi]; simp
/-- The words of a new arena. -/
def sizeA (a : Int) : Nat := if a ≤ 0 then 0 else if a ≤ 32768 then a.toNat else 32768
set_option maxHeartbeats 4000000 in
set_option maxRecDepth 100000 in
theorem new_calls (a : Int) (w : World) : Calls Try.prog 62 #[.int .i64 a] w fun e w' => e = .returned (.pointer (some ⟨w.heap.size + 1, 0, none⟩)) ∧ Ar w' (w.heap.size + 1) w.heap.size [] (sizeA a) ∧ Below w.heap.size w w' := by
  have hm : sizeA a ≤ 32768 := by unfold sizeA; (repeat' split) <;> omega
  obtain ⟨j, hj⟩ : ∃ j : Int, (if 32768 < a then 32768 else a) = j := ⟨_, rfl⟩
  have hj2 : (if 0 < j then j else 0) = ((sizeA a : Nat) : Int) := by rw [← hj]; unfold sizeA; (repeat' split) <;> omega
  have hmk := print_make (P := Try.prog) 57 25 .u64 8 Try.underlying57 info64 (by decide) (sizeA a) (by omega)
  go_enter Try.func62, Try.ntmps62
  go_wp2
  go_ret
  clear hj hj2 hmk
  refine ⟨by first | rfl | (simp; done), ?_, by repeat (first | exact Below.refl _ _ | apply below_alloc)⟩
  refine ⟨by rw [blk_new2]; rfl, ?_, by simp, hm, fun x hx => by simp at hx⟩
  rw [blk_new1]
  congr 2
  simp [nums, madeCells]
  apply Array.ext
  · simp
  · intro i h1 h2
    simp [Nat.mod_one]
set_option maxHeartbeats 4000000 in
set_option maxRecDepth 100000 in
theorem alloc_calls (w : World) (g gw n : Nat) (l : List Int) (k : Int) (h : Ar w g gw l n) :
    Calls Try.prog 45 #[.pointer (some ⟨g, 0, none⟩), .int .i64 k] w fun e w' => e = .returned (.tuple #[.int .i64 (atA l n k), .bool (okA l n k)]) ∧ Ar w' g gw (resA l n k) n ∧ Mods (fun i => i = g) w w' := by
  have c0 := h.c0
  have c1 := h.c1
  have f1 := h.f1
  have hl := h.2.2.1
  have hn := h.2.2.2.1
  have H := Aside0.mk h
  clear h
  by_cases h0 : k < 0
  · have e1 : okA l n k = false := by unfold okA; simp; omega
    have e2 : resA l n k = l := by unfold resA; rw [e1]; rfl
    have e3 : atA l n k = 0 := by unfold atA; rw [e1]; rfl
    rw [e1, e2, e3]
    clear e1 e2 e3
    have h0b : decide (k < 0) = true := decide_eq_true h0
    go_enter Try.func45, Try.ntmps45
    go_wp2
    repeat (go_quiet (fail); try go_wp2)
    go_ret2
    exact ⟨by first | rfl | (simp; done), H.out, by repeat (first | exact Mods.refl _ _ | apply Mods.drewN | apply Mods.drew)⟩
  · have h0b : decide (k < 0) = false := decide_eq_false h0
    have h0c : 0 ≤ k := by omega
    by_cases h1 : k > (n : Int) - l.length
    · have e1 : okA l n k = false := by unfold okA; simp; omega
      have e2 : resA l n k = l := by unfold resA; rw [e1]; rfl
      have e3 : atA l n k = 0 := by unfold atA; rw [e1]; rfl
      rw [e1, e2, e3]
      clear e1 e2 e3
      have h1b : decide ((n : Int) - (l.length : Nat) < k) = true := decide_eq_true h1
      go_enter Try.func45, Try.ntmps45
      go_wp2
      repeat (go_quiet (fail); try go_wp2)
      go_ret2
      exact ⟨by first | rfl | (simp; done), H.out, by repeat (first | exact Mods.refl _ _ | apply Mods.drewN | apply Mods.drew)⟩
    · have e1 : okA l n k = true := by unfold okA; simp; omega
      have e2 : resA l n k = l ++ List.replicate k.toNat 0 := by unfold resA; rw [e1]; rfl
      have e3 : atA l n k = (l.length : Nat) := by unfold atA; rw [e1]; rfl
      rw [e1, e2, e3]
      clear e1 e2 e3
      have h1b : decide ((n : Int) - (l.length : Nat) < k) = false := decide_eq_false h1
      have h1c : k ≤ (n : Int) - (l.length : Nat) := by omega
      go_enter Try.func45, Try.ntmps45
      go_wp2
      repeat (go_quiet (fail); try go_wp2)
      go_ret2
      refine ⟨by first | rfl | (simp; done), ?_, ((Mods.refl (fun i => i = g) w).drewN nq).setCell (p := ⟨g, 1, none⟩) (.inl rfl) _⟩
      obtain ⟨ha, hb, _, _, hW⟩ := H.out
      have hne := H.out.ne
      obtain ⟨m, rfl⟩ := Int.eq_ofNat_of_zero_le h0c
      refine ⟨?_, ?_, by simp; omega, hn, hW.app _⟩
      · rw [blk_set (w := w.drewN nq) ha 1 _]; simp
      · rw [blk_far (w := w.drewN nq) hb (p := ⟨g, 1, none⟩) (Ne.symm hne) _]
        congr 4
        rw [List.append_assoc, Int.toNat_natCast, List.replicate_append_replicate]
        congr 2
        simp
        omega
set_option maxHeartbeats 4000000 in
set_option maxRecDepth 100000 in
theorem has_calls (w : World) (g gw n : Nat) (l : List Int) (k : Int) (h : Ar w g gw l n) :
    Calls Try.prog 99 #[.pointer (some ⟨g, 0, none⟩), .int .i64 k] w fun e w' => e = .returned (.bool (decide (0 ≤ k ∧ k < (l.length : Nat)))) ∧ ∃ nd, w' = w.drewN nd := by
  have c1 := h.c1
  clear h
  by_cases h0 : 0 ≤ k
  · by_cases h1 : k < (l.length : Nat)
    · rw [decide_eq_true (show 0 ≤ k ∧ k < (l.length : Nat) from ⟨h0, h1⟩)]
      go_enter Try.func99, Try.ntmps99
      go_wp2
      go_ret
      exact ⟨by first | rfl | (simp; done), 0, rfl⟩
    · rw [decide_eq_false (show ¬ (0 ≤ k ∧ k < (l.length : Nat)) from fun x => h1 x.2)]
      go_enter Try.func99, Try.ntmps99
      go_wp2
      go_ret
      exact ⟨by first | rfl | (simp; done), 0, rfl⟩
  · rw [decide_eq_false (show ¬ (0 ≤ k ∧ k < (l.length : Nat)) from fun x => h0 x.1)]
    go_enter Try.func99, Try.ntmps99
    go_wp2
    go_ret
    exact ⟨by first | rfl | (simp; done), 0, rfl⟩
/-- The word at a place; the list with a word set. -/
def wordA (l : List Int) (k : Int) : Int := if 0 ≤ k ∧ k < (l.length : Nat) then l.getD k.toNat 0 else 0
def setA (l : List Int) (k v : Int) : List Int := if 0 ≤ k ∧ k < (l.length : Nat) then l.set k.toNat v else l
theorem setA_length (l : List Int) (k v : Int) : (setA l k v).length = l.length := by unfold setA; split <;> simp
theorem wordA_bd {l : List Int} (h : W64 l) (k : Int) : 0 ≤ wordA l k ∧ wordA l k < 18446744073709551616 := by
  unfold wordA; split
  · exact h.getD _
  · omega
set_option maxHeartbeats 4000000 in
set_option maxRecDepth 100000 in
theorem word_calls (w : World) (g gw n : Nat) (l : List Int) (k : Int) (h : Ar w g gw l n) :
    Calls Try.prog 55 #[.pointer (some ⟨g, 0, none⟩), .int .i64 k] w fun e w' => e = .returned (.int .u64 (wordA l k)) ∧ ∃ nd, w' = w.drewN nd := by
  have c0 := h.c0
  have hl := h.2.2.1
  have hn := h.2.2.2.1
  have HC := Aside0.mk (has_calls w g gw n l k h)
  by_cases hk : 0 ≤ k ∧ k < (l.length : Nat)
  · have e1 : wordA l k = l.getD k.toNat 0 := by unfold wordA; rw [if_pos hk]
    have hb : (decide (0 ≤ k ∧ k < (l.length : Nat))) = true := decide_eq_true hk
    obtain ⟨m, rfl⟩ := Int.eq_ofNat_of_zero_le hk.1
    have hm : m < l.length := by omega
    have cm := h.at_ m hm
    have hmn : (m : Int) < n := by omega
    rw [e1, Int.toNat_natCast]
    generalize l.getD m 0 = x at cm ⊢
    clear h hk e1
    have HB := Aside0.mk hb
    clear hb
    go_enter Try.func55, Try.ntmps55
    go_wp2_with (go_at_call 99; refine HC.out.mono ?_; rw [HB.out]; rintro e w' ⟨rfl, ⟨nd, rfl⟩⟩)
    go_ret
    exact ⟨by first | rfl | (simp; done), nd, rfl⟩
  · have e1 : wordA l k = 0 := by unfold wordA; rw [if_neg hk]
    have hb : (decide (0 ≤ k ∧ k < (l.length : Nat))) = false := decide_eq_false hk
    rw [e1]
    have HB := Aside0.mk hb
    clear h hk e1 hb
    go_enter Try.func55, Try.ntmps55
    go_wp2_with (go_at_call 99; refine HC.out.mono ?_; rw [HB.out]; rintro e w' ⟨rfl, ⟨nd, rfl⟩⟩)
    go_ret
    exact ⟨by first | rfl | (simp; done), nd, rfl⟩
set_option maxHeartbeats 4000000 in
set_option maxRecDepth 100000 in
theorem set_calls (w : World) (g gw n : Nat) (l : List Int) (k v : Int) (h : Ar w g gw l n) (v0 : 0 ≤ v) (v1 : v < 18446744073709551616) :
    Calls Try.prog 46 #[.pointer (some ⟨g, 0, none⟩), .int .i64 k, .int .u64 v] w fun e w' => e = .returned (.tuple #[]) ∧ Ar w' g gw (setA l k v) n ∧ Mods (fun i => i = gw) w w' := by
  have c0 := h.c0
  have hl := h.2.2.1
  have hn := h.2.2.2.1
  have HC := Aside0.mk (has_calls w g gw n l k h)
  have H := Aside0.mk h
  by_cases hk : 0 ≤ k ∧ k < (l.length : Nat)
  · have e1 : setA l k v = l.set k.toNat v := by unfold setA; rw [if_pos hk]
    have hb : (decide (0 ≤ k ∧ k < (l.length : Nat))) = true := decide_eq_true hk
    obtain ⟨m, rfl⟩ := Int.eq_ofNat_of_zero_le hk.1
    have hm : m < l.length := by omega
    have cm := h.at_ m hm
    have fm := h.fz m
    have hmn : (m : Int) < n := by omega
    rw [e1, Int.toNat_natCast]
    clear h hk e1
    have HB := Aside0.mk hb
    clear hb
    go_enter Try.func46, Try.ntmps46
    go_wp2_with (go_at_call 99; refine HC.out.mono ?_; rw [HB.out]; rintro e w' ⟨rfl, ⟨nd, rfl⟩⟩)
    go_end0
    obtain ⟨ha, hb, _, _, hW⟩ := H.out
    have hne := H.out.ne
    refine ⟨rfl, ⟨?_, ?_, by rw [List.length_set]; exact hl, hn, hW.set m v v0 v1⟩, ((Mods.refl (fun i => i = gw) w).drewN nd).setCell (p := ⟨gw, m, none⟩) (.inl rfl) _⟩
    · rw [blk_far (w := w.drewN nd) ha (p := ⟨gw, m, none⟩) hne _, List.length_set]
    · rw [blk_set (w := w.drewN nd) hb m _, nums_set, List.length_set, List.set_append_left _ _ hm]
  · have e1 : setA l k v = l := by unfold setA; rw [if_neg hk]
    have hb : (decide (0 ≤ k ∧ k < (l.length : Nat))) = false := decide_eq_false hk
    rw [e1]
    have HB := Aside0.mk hb
    clear h hk e1 hb
    go_enter Try.func46, Try.ntmps46
    go_wp2_with (go_at_call 99; refine HC.out.mono ?_; rw [HB.out]; rintro e w' ⟨rfl, ⟨nd, rfl⟩⟩)
    go_end0
    exact ⟨rfl, H.out, (Mods.refl _ w).drewN nd⟩
set_option maxHeartbeats 4000000 in
set_option maxRecDepth 100000 in
theorem used_calls (w : World) (g gw n : Nat) (l : List Int) (h : Ar w g gw l n) :
    Calls Try.prog 37 #[.pointer (some ⟨g, 0, none⟩)] w fun e w' => e = .returned (.int .i64 (l.length : Nat)) ∧ ∃ nd, w' = w.drewN nd := by
  have c1 := h.c1
  clear h
  go_enter Try.func37, Try.ntmps37
  go_wp2
  go_ret
  exact ⟨by first | rfl | (simp; done), 0, rfl⟩
set_option maxHeartbeats 4000000 in
set_option maxRecDepth 100000 in
theorem size_calls (w : World) (g gw n : Nat) (l : List Int) (h : Ar w g gw l n) :
    Calls Try.prog 38 #[.pointer (some ⟨g, 0, none⟩)] w fun e w' => e = .returned (.int .i64 n) ∧ ∃ nd, w' = w.drewN nd := by
  have c0 := h.c0
  clear h
  go_enter Try.func38, Try.ntmps38
  go_wp2
  go_ret
  exact ⟨by first | rfl | (simp; done), 0, rfl⟩
end Go.Proofs.YtlifdpfhepamfaaAr
