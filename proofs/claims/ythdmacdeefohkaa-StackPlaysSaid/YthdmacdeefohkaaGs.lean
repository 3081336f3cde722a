/- The document's stack (chapter 24): a list of frames, each where it goes back to and its slots; its contracts. -/
import Derived.Test.YthdmacdeefohkaaRow
import Derived.Test.YthdmacdeefohkaaRowK
import Derived.Test.YthdmacdeefohkaaBits
import Derived.Test.YthdmacdeefohkaaStkT
import Derived.WalkSpells
import Derived.StillTailTactics
import Derived.Outline
namespace Go.Proofs.YthdmacdeefohkaaGs
open Go.RowKit Go.Proofs.YthdmacdeefohkaaW.PrintWords Go.Proofs.YthdmacdeefohkaaW.PrintLast Go.Proofs.YthdmacdeefohkaaW.PrintMore Go.Proofs.YthdmacdeefohkaaMem Go.Proofs.YthdmacdeefohkaaRow Go.Proofs.YthdmacdeefohkaaRowK Go.Proofs.YthdmacdeefohkaaBits Go.Proofs
open Go.Proofs.YthdmacdeefohkaaStk (W64 info64 bel_alloc bel_drew)
open Go.Proofs.YthdmacdeefohkaaStkT (backL slotsL slotL setYL setL sumL backL_last slotsL_last slotL_last setL_last)
attribute [local go_sem] max2_int min2_int max_two min_two max_three min_three max_four min_four
set_option linter.unusedVariables false
set_option linter.unusedSimpArgs false
theorem infoG : (Try.prog.info? 133).map (fun i => (i.zero, i.size, i.bytes)) = some (some (.agg #[.int .i64 0, .slice none 0 0]), 2, 32) := by kernel_rfl
structure GF where
  back : Int
  v : Value
  y : List Int
def GF.cells (f : GF) : List Value := [.int .i64 f.back, f.v]
def gflat (fs : List GF) : List Value := fs.flatMap GF.cells
theorem gflat_length (fs : List GF) : (gflat fs).length = fs.length * 2 := by
  induction fs with
  | nil => rfl
  | cons f fs ih => simp only [gflat, List.flatMap_cons, List.length_append] at ih ⊢; rw [ih]; simp [GF.cells]; omega
theorem gflat_append (fs gs : List GF) : gflat (fs ++ gs) = gflat fs ++ gflat gs := by simp [gflat]
theorem gflat_last0 (fs : List GF) (f : GF) : (gflat (fs ++ [f]))[fs.length * 2]? = some (.int .i64 f.back) := by
  rw [gflat_append, List.getElem?_append_right (by rw [gflat_length]; exact Nat.le_refl _), gflat_length]; simp [gflat, GF.cells]
theorem gflat_last1 (fs : List GF) (f : GF) : (gflat (fs ++ [f]))[fs.length * 2 + 1]? = some f.v := by
  rw [gflat_append, List.getElem?_append_right (by rw [gflat_length]; omega), gflat_length]; simp [gflat, GF.cells]
theorem gflat_at (fs : List GF) (i : Nat) (h : i < fs.length) : (gflat fs)[i * 2]? = some (.int .i64 (fs[i]).back) ∧ (gflat fs)[i * 2 + 1]? = some (fs[i]).v := by
  have e : fs = fs.take i ++ fs[i] :: fs.drop (i + 1) := by rw [← List.drop_eq_getElem_cons h, List.take_append_drop]
  have hl : (gflat (fs.take i)).length = i * 2 := by rw [gflat_length, List.length_take]; omega
  have e2 : gflat fs = gflat (fs.take i) ++ ([.int .i64 (fs[i]).back, (fs[i]).v] ++ gflat (fs.drop (i + 1))) := by
    conv => lhs; rw [e]
    rw [gflat_append]; rfl
  rw [e2]
  constructor
  · rw [List.getElem?_append_right (by omega), hl, Nat.sub_self]; rfl
  · rw [List.getElem?_append_right (by omega), hl, show i * 2 + 1 - i * 2 = 1 by omega]; rfl
def GOk (B : Nat) (w : World) (f : GF) : Prop := Row w B 29 1 f.v f.y.length (nums .u64 f.y) ∧ W64 f.y ∧ f.y.length ≤ 12
/-- Which blocks the frames' slots have. -/
def gbs (fs : List GF) : List Nat := fs.filterMap fun f => f.v.ownBlock
theorem gbs_append (fs gs : List GF) : gbs (fs ++ gs) = gbs fs ++ gbs gs := by simp [gbs]
def GS (B : Nat) (w : World) (s : Nat) (v : Value) (fs : List GF) : Prop :=
  w.heap[s]? = some (.cells #[v] 84 (0, 0)) ∧ B ≤ s ∧ Row w B 133 2 v fs.length (gflat fs) ∧ (∀ f, f ∈ fs → GOk B w f) ∧ (gbs fs).Nodup ∧ fs.length ≤ 4000 ∧ B ≤ w.heap.size
def GFoot (s : Nat) (v : Value) (fs : List GF) (k : Nat) : Prop := k = s ∨ some k = v.ownBlock ∨ k ∈ gbs fs
def gab (fs : List GF) : List (Int × List Int) := fs.map fun f => (f.back, f.y)
theorem gab_append (fs gs : List GF) : gab (fs ++ gs) = gab fs ++ gab gs := by simp [gab]
theorem gab_length (fs : List GF) : (gab fs).length = fs.length := by simp [gab]
theorem mem_gbs {fs : List GF} {k : Nat} : k ∈ gbs fs ↔ ∃ f ∈ fs, f.v.ownBlock = some k := by simp [gbs]
section
variable {B s : Nat} {w w' : World} {v : Value} {fs : List GF} {f : GF} {S : Nat → Prop}
theorem GOk.mods (h : GOk B w f) (k : Mods S w w') (hn : ∀ i, f.v.ownBlock = some i → ¬ S i) : GOk B w' f := ⟨h.1.mods k hn, h.2⟩
theorem GS.mods (h : GS B w s v fs) (k : Mods S w w') (hn : ∀ i, GFoot s v fs i → ¬ S i) : GS B w' s v fs := by
  obtain ⟨h1, h2, h3, h4, h5, h6, h7⟩ := h
  exact ⟨k.blk h1 (hn s (.inl rfl)), h2, h3.mods k (fun i hi => hn i (.inr (.inl hi.symm))), fun f hf => (h4 f hf).mods k (fun i hi => hn _ (.inr (.inr (mem_gbs.2 ⟨f, hf, hi⟩)))), h5, h6, Nat.le_trans h7 k.size⟩
theorem GS.below (h : GS B w s v fs) (k : Below w.heap.size w w') : GS B w' s v fs := h.mods (Mods.of_below (fun _ => False) k) (fun _ _ => id)
theorem GS.drewN (h : GS B w s v fs) (m : Nat) : GS B (w.drewN m) s v fs := h
theorem GS.foot_lt (h : GS B w s v fs) : ∀ i, GFoot s v fs i → B ≤ i ∧ i < w.heap.size := by
  obtain ⟨h1, h2, h3, h4, _⟩ := h
  intro i hi
  rcases hi with rfl | hi | hi
  · exact ⟨h2, blk_lt h1⟩
  · exact h3.base_ i hi.symm
  · obtain ⟨f, hf, he⟩ := mem_gbs.1 hi
    exact (h4 f hf).1.base_ i he
theorem GS.c0 (h : GS B w s v fs) : w.cell? ⟨s, 0, none⟩ = some v := (blk_cell h.1 0).trans rfl
theorem GS.f0 (h : GS B w s v fs) : w.frozen? ⟨s, 0, none⟩ = false := blk_frozen h.1 0
/-- What is known of a frame. -/
theorem GS.at_ (h : GS B w s v fs) (i : Nat) (hi : i < fs.length) : ∃ g c, v = .slice (some ⟨g, 0, none⟩) fs.length c ∧ fs.length ≤ c ∧ w.cell? ⟨g, i * 2, none⟩ = some (.int .i64 (fs[i]).back) ∧ w.cell? ⟨g, i * 2 + 1, none⟩ = some (fs[i]).v ∧ w.frozen? ⟨g, i * 2 + 1, none⟩ = false ∧ g ≠ s := by
  obtain ⟨g, c, hv, hc, _, _⟩ := h.2.2.1.some_ (by omega)
  obtain ⟨a, b⟩ := gflat_at fs i hi
  exact ⟨g, c, hv, hc, h.2.2.1.cell hv _ _ a, h.2.2.1.cell hv _ _ b, h.2.2.1.frozen hv _, fun e => h.2.2.1.ne_type h.1 (by decide) (by simp [hv, Value.ownBlock, e])⟩
/-- What is known of a frame's slots. -/
theorem GOk.slots (h : GOk B w f) : ∃ A c, f.v = .slice A f.y.length c ∧ f.y.length ≤ c ∧ ∀ j, j < f.y.length → ∃ g, A = some ⟨g, 0, none⟩ ∧ w.cell? ⟨g, j, none⟩ = some (.int .u64 (f.y.getD j 0)) ∧ w.frozen? ⟨g, j, none⟩ = false := by
  obtain ⟨A, c, hv, hc⟩ := h.1.form
  refine ⟨A, c, hv, hc, fun j hj => ?_⟩
  obtain ⟨g, c', hv', _⟩ := h.1.some_ (by omega)
  have : A = some ⟨g, 0, none⟩ := by rw [hv] at hv'; injection hv'
  exact ⟨g, this, h.1.cell hv' j _ (nums_at .u64 f.y j hj), h.1.frozen hv' j⟩
end
theorem nil_or_last (fs : List GF) : fs = [] ∨ ∃ gs f, fs = gs ++ [f] := by
  rcases List.eq_nil_or_concat fs with h | ⟨gs, f, h⟩
  · exact .inl h
  · exact .inr ⟨gs, f, by simpa using h⟩
/-- The last frame's slots. -/
def lastV (fs : List GF) : Value := match fs.getLast? with | none => .slice none 0 0 | some f => f.v
theorem lastV_last (fs : List GF) (f : GF) : lastV (fs ++ [f]) = f.v := by simp [lastV]
theorem at_last {fs : List GF} {f : GF} (h : fs.length < (fs ++ [f]).length) : (fs ++ [f])[fs.length]'h = f := by simp
set_option maxHeartbeats 4000000 in
set_option maxRecDepth 100000 in
theorem last_calls (w : World) (B s : Nat) (v : Value) (fs : List GF) (h : GS B w s v fs) : Calls Try.prog 100 #[.pointer (some ⟨s, 0, none⟩)] w fun e w' => e = .returned (.tuple #[lastV fs, .bool (decide (0 < fs.length))]) ∧ ∃ nd, w' = w.drewN nd := by
  rcases nil_or_last fs with rfl | ⟨fs, f, rfl⟩
  · have c0 := h.c0
    obtain ⟨A, c, rfl, _⟩ := h.2.2.1.form
    clear h
    go_enter Try.func100, Try.ntmps100
    go_wp2
    go_ret2
    exact ⟨by first | rfl | (simp; done), ⟨0, rfl⟩⟩
  · have c0 := h.c0
    have hl := h.2.2.2.2.2.1
    obtain ⟨g, c, rfl, hc, c1, c2, _⟩ := h.at_ fs.length (by simp)
    rw [at_last] at c1 c2
    obtain ⟨A, c', hv, _⟩ := (h.2.2.2.1 f (by simp)).slots
    rw [lastV_last]
    rw [hv] at c2 ⊢
    rw [List.length_append, List.length_singleton] at c0 hl hc
    have hd : decide (0 < (fs ++ [f]).length) = true := by simp
    rw [hd]
    clear h hd hv
    have b1 : ((fs.length : Int) + 1 == 0) = false := by rw [beq_eq_false_iff_ne]; omega
    have b2 : ¬ (fs.length : Int) + 1 = 0 := by omega
    go_enter Try.func100, Try.ntmps100
    go_wp2
    repeat (go_quiet (fail); try go_wp2)
    go_ret2
    exact ⟨by first | rfl | (simp; done), by first | exact ⟨0, rfl⟩ | exact ⟨_, rfl⟩⟩
theorem gab_last (fs : List GF) (f : GF) : gab (fs ++ [f]) = gab fs ++ [(f.back, f.y)] := by simp [gab]
set_option maxHeartbeats 4000000 in
set_option maxRecDepth 100000 in
theorem back_calls (w : World) (B s : Nat) (v : Value) (fs : List GF) (h : GS B w s v fs) : Calls Try.prog 64 #[.pointer (some ⟨s, 0, none⟩)] w fun e w' => e = .returned (.int .i64 (backL (gab fs))) ∧ ∃ nd, w' = w.drewN nd := by
  rcases nil_or_last fs with rfl | ⟨fs, f, rfl⟩
  · have c0 := h.c0
    obtain ⟨A, c, rfl, _⟩ := h.2.2.1.form
    clear h
    rw [show backL (gab []) = -1 from rfl]
    go_enter Try.func64, Try.ntmps64
    go_wp2
    go_ret
    exact ⟨by first | rfl | (simp; done), ⟨0, rfl⟩⟩
  · have c0 := h.c0
    have hl := h.2.2.2.2.2.1
    obtain ⟨g, c, rfl, hc, c1, c2, _⟩ := h.at_ fs.length (by simp)
    rw [at_last] at c1
    rw [gab_last, backL_last]
    rw [List.length_append, List.length_singleton] at c0 hl hc
    clear h c2
    have b1 : ((fs.length : Int) + 1 == 0) = false := by rw [beq_eq_false_iff_ne]; omega
    have b2 : ¬ (fs.length : Int) + 1 = 0 := by omega
    go_enter Try.func64, Try.ntmps64
    go_wp2
    repeat (go_quiet (fail); try go_wp2)
    go_ret
    exact ⟨by first | rfl | (simp; done), by first | exact ⟨0, rfl⟩ | exact ⟨_, rfl⟩⟩
theorem lastV_form {B : Nat} {w : World} {s : Nat} {v : Value} {fs : List GF} (h : GS B w s v fs) : ∃ A c n, lastV fs = .slice A n c ∧ n ≤ c ∧ (slotsL (gab fs) = (n : Int) ∧ 0 < fs.length ∨ fs = [] ∧ n = 0) := by
  rcases nil_or_last fs with rfl | ⟨gs, f, rfl⟩
  · exact ⟨none, 0, 0, rfl, Nat.le_refl _, .inr ⟨rfl, rfl⟩⟩
  · obtain ⟨A, c, hv, hc, _⟩ := (h.2.2.2.1 f (by simp)).slots
    exact ⟨A, c, f.y.length, by rw [lastV_last, hv], hc, .inl ⟨by rw [gab_last, slotsL_last], by simp⟩⟩
set_option maxHeartbeats 4000000 in
set_option maxRecDepth 100000 in
theorem slots_calls (w : World) (B s : Nat) (v : Value) (fs : List GF) (h : GS B w s v fs) : Calls Try.prog 63 #[.pointer (some ⟨s, 0, none⟩)] w fun e w' => e = .returned (.int .i64 (slotsL (gab fs))) ∧ ∃ nd, w' = w.drewN nd := by
  have HC := Aside0.mk (last_calls w B s v fs h)
  obtain ⟨A, c, n, hv, hn, hs⟩ := lastV_form h
  rw [hv] at HC
  clear h
  rcases hs with ⟨hs, hp⟩ | ⟨rfl, rfl⟩
  · rw [hs]
    have hd : decide (0 < fs.length) = true := by simpa using hp
    rw [hd] at HC
    clear hp hd hs hv
    go_enter Try.func63, Try.ntmps63
    go_wp2_with (go_at_call 100; (with_reducible refine HC.out.mono ?_); rintro e wz ⟨rfl, nd, rfl⟩)
    go_ret
    exact ⟨by first | rfl | (simp; done), ⟨_, rfl⟩⟩
  · rw [show slotsL (gab []) = -1 from rfl]
    have hd : decide (0 < ([] : List GF).length) = false := rfl
    rw [hd] at HC
    clear hd hv
    go_enter Try.func63, Try.ntmps63
    go_wp2_with (go_at_call 100; (with_reducible refine HC.out.mono ?_); rintro e wz ⟨rfl, nd, rfl⟩)
    go_ret
    exact ⟨by first | rfl | (simp; done), ⟨_, rfl⟩⟩
set_option maxHeartbeats 4000000 in
set_option maxRecDepth 100000 in
theorem slot_calls (w : World) (B s : Nat) (v : Value) (fs : List GF) (k : Int) (h : GS B w s v fs) : Calls Try.prog 62 #[.pointer (some ⟨s, 0, none⟩), .int .i64 k] w fun e w' => e = .returned (.int .u64 (slotL (gab fs) k)) ∧ ∃ nd, w' = w.drewN nd := by
  have HC := Aside0.mk (last_calls w B s v fs h)
  rcases nil_or_last fs with rfl | ⟨fs, f, rfl⟩
  · rw [show lastV [] = .slice none 0 0 from rfl, show decide (0 < ([] : List GF).length) = false from rfl] at HC
    rw [show slotL (gab []) k = 0 from rfl]
    clear h
    by_cases hk : k < 0
    · have b1 : ¬ 0 ≤ k := by omega
      go_enter Try.func62, Try.ntmps62
      go_wp2_with (go_at_call 100; (with_reducible refine HC.out.mono ?_); rintro e wz ⟨rfl, nd, rfl⟩)
      go_ret
      exact ⟨by first | rfl | (simp; done), ⟨_, rfl⟩⟩
    · have b1 : 0 ≤ k := by omega
      go_enter Try.func62, Try.ntmps62
      go_wp2_with (go_at_call 100; (with_reducible refine HC.out.mono ?_); rintro e wz ⟨rfl, nd, rfl⟩)
      go_ret
      exact ⟨by first | rfl | (simp; done), ⟨_, rfl⟩⟩
  · obtain ⟨A, c, hv, hc, hsl⟩ := (h.2.2.2.1 f (by simp)).slots
    rw [gab_last, slotL_last]
    rw [lastV_last, hv, show decide (0 < (fs ++ [f]).length) = true by simp] at HC
    clear h hv
    by_cases hk : 0 ≤ k ∧ k < (f.y.length : Nat)
    · rw [if_pos hk]
      obtain ⟨m, rfl⟩ := Int.eq_ofNat_of_zero_le hk.1
      rw [Int.toNat_natCast]
      have hm : m < f.y.length := by omega
      obtain ⟨g, rfl, cm, _⟩ := hsl m hm
      have b1 : (m : Int) < (f.y.length : Nat) := hk.2
      have b2 : ¬ (f.y.length : Int) ≤ (m : Int) := by omega
      clear hsl hk
      generalize f.y.getD m 0 = x at cm
      go_enter Try.func62, Try.ntmps62
      go_wp2_with (go_at_call 100; (with_reducible refine HC.out.mono ?_); rintro e w' ⟨rfl, nd, rfl⟩)
      go_ret
      exact ⟨by first | rfl | (simp; done), ⟨_, rfl⟩⟩
    · rw [if_neg hk]
      clear hsl
      by_cases hk0 : k < 0
      · have b1 : ¬ 0 ≤ k := by omega
        clear hk
        go_enter Try.func62, Try.ntmps62
        go_wp2_with (go_at_call 100; (with_reducible refine HC.out.mono ?_); rintro e w' ⟨rfl, nd, rfl⟩)
        go_ret
        exact ⟨by first | rfl | (simp; done), ⟨_, rfl⟩⟩
      · have b1 : (f.y.length : Int) ≤ k := by omega
        clear hk
        go_enter Try.func62, Try.ntmps62
        go_wp2_with (go_at_call 100; (with_reducible refine HC.out.mono ?_); rintro e w' ⟨rfl, nd, rfl⟩)
        go_ret
        exact ⟨by first | rfl | (simp; done), ⟨_, rfl⟩⟩
/-- A frame with a slot set. -/
def gsetY (f : GF) (k x : Int) : GF := { f with y := setYL f.y k x }
set_option maxHeartbeats 4000000 in
set_option maxRecDepth 100000 in
theorem set_calls (w : World) (B s : Nat) (v : Value) (fs : List GF) (k x : Int) (h : GS B w s v fs) (x0 : 0 ≤ x) (x1 : x < 18446744073709551616) :
    Calls Try.prog 61 #[.pointer (some ⟨s, 0, none⟩), .int .i64 k, .int .u64 x] w fun e w' => e = .returned (.tuple #[]) ∧ ∃ fs', GS B w' s v fs' ∧ gab fs' = setL (gab fs) k x ∧ gbs fs' = gbs fs ∧ Mods (fun i => i ∈ gbs fs) w w' := by
  have H := Aside0.mk h
  have HC := Aside0.mk (last_calls w B s v fs h)
  rcases nil_or_last fs with rfl | ⟨fs, f, rfl⟩
  · rw [show lastV [] = .slice none 0 0 from rfl, show decide (0 < ([] : List GF).length) = false from rfl] at HC
    clear h
    by_cases hk : k < 0
    · have b1 : ¬ 0 ≤ k := by omega
      go_enter Try.func61, Try.ntmps61
      go_wp2_with (go_at_call 100; (with_reducible refine HC.out.mono ?_); rintro e wz ⟨rfl, nd, rfl⟩)
      go_end0
      exact ⟨rfl, [], H.out, rfl, rfl, (Mods.refl _ w).drewN nd⟩
    · have b1 : 0 ≤ k := by omega
      go_enter Try.func61, Try.ntmps61
      go_wp2_with (go_at_call 100; (with_reducible refine HC.out.mono ?_); rintro e wz ⟨rfl, nd, rfl⟩)
      go_end0
      exact ⟨rfl, [], H.out, rfl, rfl, (Mods.refl _ w).drewN nd⟩
  · obtain ⟨A, c, hv, hc, hsl⟩ := (h.2.2.2.1 f (by simp)).slots
    rw [gab_last, setL_last]
    rw [lastV_last, hv, show decide (0 < (fs ++ [f]).length) = true by simp] at HC
    clear h
    have same : ∀ nd, k < 0 ∨ (f.y.length : Int) ≤ k → ∃ fs', GS B (w.drewN nd) s v fs' ∧ gab fs' = gab fs ++ [(f.back, setYL f.y k x)] ∧ gbs fs' = gbs (fs ++ [f]) ∧ Mods (fun i => i ∈ gbs (fs ++ [f])) w (w.drewN nd) := fun nd hk =>
      ⟨fs ++ [f], H.out, by rw [gab_last]; unfold setYL; rw [if_neg (by omega)], rfl, (Mods.refl _ w).drewN nd⟩
    by_cases hk : 0 ≤ k ∧ k < (f.y.length : Nat)
    · obtain ⟨m, rfl⟩ := Int.eq_ofNat_of_zero_le hk.1
      have hm : m < f.y.length := by omega
      obtain ⟨g, rfl, cm, fm⟩ := hsl m hm
      have b1 : (m : Int) < (f.y.length : Nat) := hk.2
      have hyl : setYL f.y (m : Int) x = f.y.set m x := by unfold setYL; rw [if_pos hk, Int.toNat_natCast]
      rw [hyl]
      clear hsl hk same hyl
      have HV := Aside0.mk hv
      generalize f.y.getD m 0 = x' at cm
      clear hv
      go_enter Try.func61, Try.ntmps61
      go_wp2_with (go_at_call 100; (with_reducible refine HC.out.mono ?_); rintro e w' ⟨rfl, nd, rfl⟩)
      go_end0
      obtain ⟨q1, q2, q3, q4, q5, q6, q7⟩ := H.out
      have hgm : g ∈ gbs (fs ++ [f]) := mem_gbs.2 ⟨f, by simp, by rw [HV.out]; rfl⟩
      have km : Mods (fun i => i = g) w ((w.drewN nd).setCell ⟨g, m, none⟩ (.int .u64 x)) := ((Mods.refl (fun i => i = g) w).drewN nd).setCell (p := ⟨g, m, none⟩) (.inl rfl) _
      obtain ⟨hr, hw64, h12⟩ := q4 f (by simp)
      obtain ⟨cur, hcur⟩ : ∃ cur, w.heap[g]? = some (.cells cur 29 (0, 0)) := by
        obtain ⟨g', c', hv', _, _, cur, hcur, _⟩ := hr.some_ (by omega)
        rw [HV.out] at hv'
        injection hv' with e _ _
        injection e with e
        injection e with e
        subst e
        exact ⟨cur, hcur⟩
      have hgs : s ≠ g := blk_ne q1 hcur (by decide)
      have hrow := q3.ne_type hcur (by decide)
      have hgb : gbs (fs ++ [{ f with y := f.y.set m x }]) = gbs (fs ++ [f]) := by rw [gbs_append, gbs_append]; rfl
      refine ⟨rfl, fs ++ [{ f with y := f.y.set m x }], ⟨km.blk q1 hgs, q2, ?_, ?_, by rw [hgb]; exact q5, by simpa using q6, Nat.le_trans q7 km.size⟩, by simp [gab], hgb, km.mono (fun i hi => by rw [hi]; exact hgm)⟩
      · have := q3.mods km (fun i hi => fun e => hrow (by rw [hi, e]))
        simpa [gflat, GF.cells] using this
      · intro f' hf'
        rcases List.mem_append.1 hf' with hf' | hf'
        · refine (q4 f' (by simp [hf'])).mods km (fun i hi e => ?_)
          rw [gbs_append, List.nodup_append] at q5
          exact q5.2.2 i (mem_gbs.2 ⟨f', hf', hi⟩) g (by rw [mem_gbs]; exact ⟨f, by simp, by rw [HV.out]; rfl⟩) e
        · rw [List.mem_singleton] at hf'
          subst hf'
          refine ⟨?_, fun z hz => ?_, by simpa using h12⟩
          · have := (show Row (w.drewN nd) B 29 1 f.v f.y.length (nums .u64 f.y) from hr).set_ HV.out m (.int .u64 x)
            simp only [List.length_set]
            rw [show nums .u64 (f.y.set m x) = (nums .u64 f.y).set m (.int .u64 x) by simp [nums, List.map_set]]
            exact this
          · rcases List.mem_or_eq_of_mem_set hz with hz | rfl
            · exact hw64 z hz
            · exact ⟨x0, x1⟩
    · clear hsl
      by_cases hk0 : k < 0
      · have b1 : ¬ 0 ≤ k := by omega
        clear hk hv
        have HS := Aside0.mk (fun nd => same nd (.inl hk0))
        clear same
        go_enter Try.func61, Try.ntmps61
        go_wp2_with (go_at_call 100; (with_reducible refine HC.out.mono ?_); rintro e w' ⟨rfl, nd, rfl⟩)
        go_end0
        exact ⟨rfl, HS.out nd⟩
      · have b1 : 0 ≤ k := by omega
        have b2 : ¬ k < (f.y.length : Int) := by omega
        have HS := Aside0.mk (fun nd => same nd (.inr (by omega)))
        clear hk hv same
        go_enter Try.func61, Try.ntmps61
        go_wp2_with (go_at_call 100; (with_reducible refine HC.out.mono ?_); rintro e w' ⟨rfl, nd, rfl⟩)
        go_end0
        exact ⟨rfl, HS.out nd⟩
end Go.Proofs.YthdmacdeefohkaaGs
