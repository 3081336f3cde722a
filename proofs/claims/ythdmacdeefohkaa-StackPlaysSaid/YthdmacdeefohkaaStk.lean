/- The contracts of the package stack: a stack is a list of frames, each where it goes back to and its slots. -/
import Derived.Test.YthdmacdeefohkaaRow
import Derived.Test.YthdmacdeefohkaaBits
import Derived.WalkSpells
import Derived.StillTailTactics
import Derived.Outline
namespace Go.Proofs.YthdmacdeefohkaaStk
open Go.RowKit Go.Proofs.YthdmacdeefohkaaW.PrintWords Go.Proofs.YthdmacdeefohkaaW.PrintLast Go.Proofs.YthdmacdeefohkaaW.PrintMore Go.Proofs.YthdmacdeefohkaaMem Go.Proofs.YthdmacdeefohkaaRow Go.Proofs.YthdmacdeefohkaaBits Go.Proofs
attribute [local go_sem] max2_int min2_int max_two min_two max_three min_three max_four min_four
set_option linter.unusedVariables false
set_option linter.unusedSimpArgs false
theorem info64 : (Try.prog.info? 29).map (fun i => (i.zero, i.size, i.bytes)) = some (some (.int .u64 0), 1, 8) := by kernel_rfl
theorem infoF : (Try.prog.info? 118).map (fun i => (i.zero, i.size, i.bytes)) = some (some (.agg #[.int .i64 0, .slice none 0 0]), 2, 32) := by kernel_rfl
/-- A frame: where it goes back to; the block, the place and the capacity of its slots; the slots. -/
structure Fr where
  back : Int
  b : Nat
  o : Nat
  c : Nat
  y : List Int
def W64 (l : List Int) : Prop := ∀ x, x ∈ l → 0 ≤ x ∧ x < 18446744073709551616
def Fr.cells (f : Fr) : List Value := [.int .i64 f.back, .slice (some ⟨f.b, f.o, none⟩) f.y.length f.c]
def flat (fs : List Fr) : List Value := fs.flatMap Fr.cells
theorem flat_length (fs : List Fr) : (flat fs).length = fs.length * 2 := by
  induction fs with
  | nil => rfl
  | cons f fs ih => simp only [flat, List.flatMap_cons, List.length_append] at ih ⊢; rw [ih]; simp [Fr.cells]; omega
theorem flat_append (fs gs : List Fr) : flat (fs ++ gs) = flat fs ++ flat gs := by simp [flat]
theorem flat_last0 (fs : List Fr) (f : Fr) : (flat (fs ++ [f]))[fs.length * 2]? = some (.int .i64 f.back) := by
  rw [flat_append, List.getElem?_append_right (by rw [flat_length]; exact Nat.le_refl _), flat_length]; simp [flat, Fr.cells]
theorem flat_last1 (fs : List Fr) (f : Fr) : (flat (fs ++ [f]))[fs.length * 2 + 1]? = some (.slice (some ⟨f.b, f.o, none⟩) f.y.length f.c) := by
  rw [flat_append, List.getElem?_append_right (by rw [flat_length]; omega), flat_length]; simp [flat, Fr.cells]
/-- A frame's slots lie where it says. -/
def FrOk (B : Nat) (w : World) (f : Fr) : Prop :=
  B ≤ f.b ∧ (∃ cur : List Int, w.heap[f.b]? = some (.cells (nums .u64 cur).toArray 29 (0, 0)) ∧ f.o + f.y.length ≤ cur.length ∧ (cur.drop f.o).take f.y.length = f.y) ∧ f.y.length ≤ f.c ∧ f.c ≤ 12 ∧ W64 f.y
/-- A stack at block s, its frames in the slice v. -/
def St (B : Nat) (w : World) (s : Nat) (v : Value) (fs : List Fr) : Prop :=
  w.heap[s]? = some (.cells #[v] 116 (0, 0)) ∧ B ≤ s ∧ Row w B 118 2 v fs.length (flat fs) ∧ (∀ f, f ∈ fs → FrOk B w f) ∧ (fs.map Fr.b).Nodup ∧ fs.length ≤ 4000 ∧ B ≤ w.heap.size
/-- Its blocks. -/
def SFoot (s : Nat) (v : Value) (fs : List Fr) (k : Nat) : Prop := k = s ∨ some k = v.ownBlock ∨ k ∈ fs.map Fr.b
section
variable {B s : Nat} {w w' : World} {v : Value} {fs : List Fr} {f : Fr} {S : Nat → Prop}
theorem FrOk.mods (h : FrOk B w f) (k : Mods S w w') (hn : ¬ S f.b) : FrOk B w' f := by
  obtain ⟨h1, ⟨cur, h2, h3⟩, h4⟩ := h
  exact ⟨h1, ⟨cur, k.blk h2 hn, h3⟩, h4⟩
theorem FrOk.lt (h : FrOk B w f) : f.b < w.heap.size := by
  obtain ⟨_, ⟨cur, h2, _⟩, _⟩ := h
  exact blk_lt h2
theorem St.mods (h : St B w s v fs) (k : Mods S w w') (hn : ∀ i, SFoot s v fs i → ¬ S i) : St B w' s v fs := by
  obtain ⟨h1, h2, h3, h4, h5, h6, h7⟩ := h
  exact ⟨k.blk h1 (hn s (.inl rfl)), h2, h3.mods k (fun i hi => hn i (.inr (.inl hi.symm))), fun f hf => (h4 f hf).mods k (hn _ (.inr (.inr (List.mem_map_of_mem hf)))), h5, h6, Nat.le_trans h7 k.size⟩
theorem St.below (h : St B w s v fs) (k : Below w.heap.size w w') : St B w' s v fs := h.mods (Mods.of_below (fun _ => False) k) (fun _ _ => id)
theorem St.drewN (h : St B w s v fs) (m : Nat) : St B (w.drewN m) s v fs := h
theorem St.foot_lt (h : St B w s v fs) : ∀ i, SFoot s v fs i → B ≤ i ∧ i < w.heap.size := by
  obtain ⟨h1, h2, h3, h4, _⟩ := h
  intro i hi
  rcases hi with rfl | hi | hi
  · exact ⟨h2, blk_lt h1⟩
  · exact h3.base_ i hi.symm
  · obtain ⟨f, hf, rfl⟩ := List.mem_map.1 hi
    exact ⟨(h4 f hf).1, (h4 f hf).lt⟩
theorem St.c0 (h : St B w s v fs) : w.cell? ⟨s, 0, none⟩ = some v := (blk_cell h.1 0).trans rfl
theorem St.f0 (h : St B w s v fs) : w.frozen? ⟨s, 0, none⟩ = false := blk_frozen h.1 0
end
set_option maxHeartbeats 4000000 in
set_option maxRecDepth 100000 in
theorem new_calls (w : World) (B : Nat) (hB : B ≤ w.heap.size) : Calls Try.prog 14 #[] w fun e w' => e = .returned (.pointer (some ⟨w.heap.size, 0, none⟩)) ∧ St B w' w.heap.size (.slice none 0 0) [] ∧ Below w.heap.size w w' := by
  go_enter Try.func14, Try.ntmps14
  go_wp2
  go_ret
  refine ⟨by first | rfl | (simp; done), ⟨by simpa using heap_alloc_new w _, hB, ⟨by simp [flat], .inl ⟨rfl, rfl⟩⟩, fun f hf => by simp at hf, by simp, by simp, by simp; omega⟩, by repeat (first | exact Below.refl _ _ | apply below_alloc)⟩
set_option maxHeartbeats 4000000 in
set_option maxRecDepth 100000 in
theorem depth_calls (w : World) (B s : Nat) (v : Value) (fs : List Fr) (h : St B w s v fs) : Calls Try.prog 20 #[.pointer (some ⟨s, 0, none⟩)] w fun e w' => e = .returned (.int .i64 (fs.length : Nat)) ∧ ∃ nd, w' = w.drewN nd := by
  have c0 := h.c0
  obtain ⟨A, c, rfl, _⟩ := h.2.2.1.form
  have hl := h.2.2.2.2.2.1
  clear h
  go_enter Try.func20, Try.ntmps20
  go_wp2
  go_ret
  exact ⟨by first | rfl | (simp; done), 0, rfl⟩
set_option maxHeartbeats 4000000 in
set_option maxRecDepth 100000 in
theorem last_none (w : World) (B s : Nat) (v : Value) (h : St B w s v []) : Calls Try.prog 85 #[.pointer (some ⟨s, 0, none⟩)] w fun e w' => e = .returned (.tuple #[.pointer (some ⟨w.heap.size, 0, none⟩), .bool false]) ∧ w' = w.alloc (.cells #[.int .i64 (-1), .slice none 0 0] 118) := by
  have c0 := h.c0
  obtain ⟨A, c, rfl, _⟩ := h.2.2.1.form
  clear h
  go_enter Try.func85, Try.ntmps85
  go_wp2
  go_ret2
  exact ⟨by first | rfl | (simp; done), rfl⟩
set_option maxHeartbeats 4000000 in
set_option maxRecDepth 100000 in
theorem last_some (w : World) (B s g c : Nat) (fs : List Fr) (f : Fr) (h : St B w s (.slice (some ⟨g, 0, none⟩) (fs ++ [f]).length c) (fs ++ [f])) : Calls Try.prog 85 #[.pointer (some ⟨s, 0, none⟩)] w fun e w' => e = .returned (.tuple #[.pointer (some ⟨g, fs.length * 2, none⟩), .bool true]) ∧ ∃ nd, w' = w.drewN nd := by
  have c0 := h.c0
  have hl := h.2.2.2.2.2.1
  rw [List.length_append, List.length_singleton] at c0 hl
  have hc : fs.length + 1 ≤ c := by
    obtain ⟨A, c', he, hc⟩ := h.2.2.1.form
    injection he with _ _ he
    subst he
    simpa using hc
  clear h
  have b1 : ((fs.length : Int) + 1 == 0) = false := by rw [beq_eq_false_iff_ne]; omega
  have b2 : ¬ (fs.length : Int) + 1 = 0 := by omega
  go_enter Try.func85, Try.ntmps85
  go_wp2
  repeat (go_quiet (fail); try go_wp2)
  go_ret2
  exact ⟨by first | rfl | (simp; done), by first | exact ⟨0, rfl⟩ | exact ⟨_, rfl⟩⟩
section
variable {B s : Nat} {w w' : World} {v : Value} {fs : List Fr} {f : Fr}
/-- What is known of the last frame. -/
theorem St.last_ (h : St B w s v (fs ++ [f])) : ∃ g c, v = .slice (some ⟨g, 0, none⟩) (fs ++ [f]).length c ∧ w.cell? ⟨g, fs.length * 2, none⟩ = some (.int .i64 f.back) ∧ w.cell? ⟨g, fs.length * 2 + 1, none⟩ = some (.slice (some ⟨f.b, f.o, none⟩) f.y.length f.c) ∧
    w.frozen? ⟨g, fs.length * 2 + 1, none⟩ = false ∧ (∀ j, j < f.y.length → w.cell? ⟨f.b, f.o + j, none⟩ = some (.int .u64 (f.y.getD j 0)) ∧ w.frozen? ⟨f.b, f.o + j, none⟩ = false) ∧ f.y.length ≤ f.c ∧ f.c ≤ 12 ∧ (fs ++ [f]).length ≤ c := by
  obtain ⟨g, c, hv, hc, _, _⟩ := h.2.2.1.some_ (by simp)
  obtain ⟨_, ⟨cur, h2, h3, h4⟩, h5, h6, _⟩ := h.2.2.2.1 f (by simp)
  refine ⟨g, c, hv, h.2.2.1.cell hv _ _ (flat_last0 fs f), h.2.2.1.cell hv _ _ (flat_last1 fs f), h.2.2.1.frozen hv _, fun j hj => ⟨?_, blk_frozen h2 _⟩, h5, h6, hc⟩
  rw [nums_cell h2 (f.o + j) (by omega)]
  have : f.y.getD j 0 = cur.getD (f.o + j) 0 := by
    rw [← h4]
    simp [List.getD_eq_getElem?_getD, List.getElem?_take, hj]
  rw [this]
end
/-- Where the last frame goes back to; its slots; a slot. -/
def backOf (fs : List Fr) : Int := match fs.getLast? with | none => -1 | some f => f.back
def slotsOf (fs : List Fr) : Int := match fs.getLast? with | none => -1 | some f => f.y.length
def slotOf (fs : List Fr) (k : Int) : Int := match fs.getLast? with | none => 0 | some f => if 0 ≤ k ∧ k < (f.y.length : Nat) then f.y.getD k.toNat 0 else 0
theorem backOf_last (fs : List Fr) (f : Fr) : backOf (fs ++ [f]) = f.back := by simp [backOf]
theorem slotsOf_last (fs : List Fr) (f : Fr) : slotsOf (fs ++ [f]) = (f.y.length : Nat) := by simp [slotsOf]
theorem slotOf_last (fs : List Fr) (f : Fr) (k : Int) : slotOf (fs ++ [f]) k = if 0 ≤ k ∧ k < (f.y.length : Nat) then f.y.getD k.toNat 0 else 0 := by simp [slotOf]
theorem nil_or_last (fs : List Fr) : fs = [] ∨ ∃ gs f, fs = gs ++ [f] := by
  rcases List.eq_nil_or_concat fs with h | ⟨gs, f, h⟩
  · exact .inl h
  · exact .inr ⟨gs, f, by simpa using h⟩
theorem bel_alloc (w : World) (o : Obj) : Below w.heap.size w (w.alloc o) := below_alloc (Below.refl _ _) o
theorem bel_drew (w : World) (n : Nat) : Below w.heap.size w (w.drewN n) := pw_below_drewN (Below.refl _ _) n
set_option maxHeartbeats 4000000 in
set_option maxRecDepth 100000 in
theorem back_calls (w : World) (B s : Nat) (v : Value) (fs : List Fr) (h : St B w s v fs) : Calls Try.prog 21 #[.pointer (some ⟨s, 0, none⟩)] w fun e w' => e = .returned (.int .i64 (backOf fs)) ∧ Below w.heap.size w w' := by
  have HB := Aside0.mk (bel_alloc w (.cells #[.int .i64 (-1), .slice none 0 0] 118))
  rcases nil_or_last fs with rfl | ⟨fs, f, rfl⟩
  · have HC := Aside0.mk (last_none w B s v h)
    clear h
    go_enter Try.func21, Try.ntmps21
    go_wp2_with (go_at_call 85; (with_reducible refine HC.out.mono ?_); rintro e w' ⟨rfl, rfl⟩)
    go_ret
    exact ⟨by first | rfl | (simp; done), HB.out⟩
  · obtain ⟨g, c, rfl, c0, _⟩ := h.last_
    rw [backOf_last]
    have HC := Aside0.mk (last_some w B s g c fs f h)
    clear h
    go_enter Try.func21, Try.ntmps21
    go_wp2_with (go_at_call 85; (with_reducible refine HC.out.mono ?_); rintro e w' ⟨rfl, nd, rfl⟩)
    go_ret
    exact ⟨by first | rfl | (simp; done), bel_drew _ _⟩
set_option maxHeartbeats 4000000 in
set_option maxRecDepth 100000 in
theorem slots_calls (w : World) (B s : Nat) (v : Value) (fs : List Fr) (h : St B w s v fs) : Calls Try.prog 17 #[.pointer (some ⟨s, 0, none⟩)] w fun e w' => e = .returned (.int .i64 (slotsOf fs)) ∧ Below w.heap.size w w' := by
  have HB := Aside0.mk (bel_alloc w (.cells #[.int .i64 (-1), .slice none 0 0] 118))
  rcases nil_or_last fs with rfl | ⟨fs, f, rfl⟩
  · have HC := Aside0.mk (last_none w B s v h)
    clear h
    go_enter Try.func17, Try.ntmps17
    go_wp2_with (go_at_call 85; (with_reducible refine HC.out.mono ?_); rintro e w' ⟨rfl, rfl⟩)
    go_ret
    exact ⟨by first | rfl | (simp; done), HB.out⟩
  · obtain ⟨g, c, rfl, c0, c1, _⟩ := h.last_
    rw [slotsOf_last]
    have HC := Aside0.mk (last_some w B s g c fs f h)
    clear h
    go_enter Try.func17, Try.ntmps17
    go_wp2_with (go_at_call 85; (with_reducible refine HC.out.mono ?_); rintro e w' ⟨rfl, nd, rfl⟩)
    go_ret
    exact ⟨by first | rfl | (simp; done), bel_drew _ _⟩
set_option maxHeartbeats 4000000 in
set_option maxRecDepth 100000 in
theorem has_none (w : World) (B s : Nat) (v : Value) (k : Int) (h : St B w s v []) : Calls Try.prog 86 #[.pointer (some ⟨s, 0, none⟩), .int .i64 k] w fun e w' => e = .returned (.tuple #[.pointer (some ⟨w.heap.size, 0, none⟩), .bool false]) ∧ Below w.heap.size w w' := by
  have HB := Aside0.mk (bel_alloc w (.cells #[.int .i64 (-1), .slice none 0 0] 118))
  have HC := Aside0.mk (last_none w B s v h)
  clear h
  by_cases h0 : 0 ≤ k
  · have hb : ¬ k < 0 := by omega
    have hd : decide (k < 0) = false := decide_eq_false hb
    have hd1 : decide (0 ≤ k) = true := decide_eq_true h0
    go_enter Try.func86, Try.ntmps86
    go_wp2_with (go_at_call 85; (with_reducible refine HC.out.mono ?_); rintro e w' ⟨rfl, rfl⟩)
    go_quiet (fail)
    go_wp2
    go_ret2
    exact ⟨by first | rfl | (simp; done), pw_below_drewN HB.out _⟩
  · have hd1 : decide (0 ≤ k) = false := decide_eq_false h0
    go_enter Try.func86, Try.ntmps86
    go_wp2_with (go_at_call 85; (with_reducible refine HC.out.mono ?_); rintro e w' ⟨rfl, rfl⟩)
    go_quiet (fail)
    go_wp2
    go_ret2
    exact ⟨by first | rfl | (simp; done), pw_below_drewN HB.out _⟩
set_option maxHeartbeats 4000000 in
set_option maxRecDepth 100000 in
theorem has_some (w : World) (B s g c : Nat) (fs : List Fr) (f : Fr) (k : Int) (h : St B w s (.slice (some ⟨g, 0, none⟩) (fs ++ [f]).length c) (fs ++ [f])) : Calls Try.prog 86 #[.pointer (some ⟨s, 0, none⟩), .int .i64 k] w fun e w' => e = .returned (.tuple #[.pointer (some ⟨g, fs.length * 2, none⟩), .bool (decide (0 ≤ k ∧ k < (f.y.length : Nat)))]) ∧ ∃ nd, w' = w.drewN nd := by
  have HC := Aside0.mk (last_some w B s g c fs f h)
  obtain ⟨g', c', hv, c0, c1, _⟩ := h.last_
  injection hv with hv1 _ hv2
  injection hv1 with hv1
  injection hv1 with hv1
  subst hv1
  clear h
  by_cases h0 : 0 ≤ k
  · have hd1 : decide (0 ≤ k) = true := decide_eq_true h0
    by_cases h1 : k < (f.y.length : Nat)
    · rw [decide_eq_true (show 0 ≤ k ∧ k < (f.y.length : Nat) from ⟨h0, h1⟩)]
      have hd2 : decide (k < (f.y.length : Nat)) = true := decide_eq_true h1
      go_enter Try.func86, Try.ntmps86
      go_wp2_with (go_at_call 85; (with_reducible refine HC.out.mono ?_); rintro e w' ⟨rfl, nd, rfl⟩)
      go_quiet (fail)
      go_wp2
      go_ret2
      exact ⟨by first | rfl | (simp; done), nd + nq, by rw [World.drewN_drewN]⟩
    · rw [decide_eq_false (show ¬ (0 ≤ k ∧ k < (f.y.length : Nat)) from fun x => h1 x.2)]
      have hd2 : decide (k < (f.y.length : Nat)) = false := decide_eq_false h1
      go_enter Try.func86, Try.ntmps86
      go_wp2_with (go_at_call 85; (with_reducible refine HC.out.mono ?_); rintro e w' ⟨rfl, nd, rfl⟩)
      go_quiet (fail)
      go_wp2
      go_ret2
      exact ⟨by first | rfl | (simp; done), nd + nq, by rw [World.drewN_drewN]⟩
  · rw [decide_eq_false (show ¬ (0 ≤ k ∧ k < (f.y.length : Nat)) from fun x => h0 x.1)]
    have hd1 : decide (0 ≤ k) = false := decide_eq_false h0
    go_enter Try.func86, Try.ntmps86
    go_wp2_with (go_at_call 85; (with_reducible refine HC.out.mono ?_); rintro e w' ⟨rfl, nd, rfl⟩)
    go_quiet (fail)
    go_wp2
    go_ret2
    exact ⟨by first | rfl | (simp; done), nd + nq, by rw [World.drewN_drewN]⟩
set_option maxHeartbeats 4000000 in
set_option maxRecDepth 100000 in
theorem slot_calls (w : World) (B s : Nat) (v : Value) (fs : List Fr) (k : Int) (h : St B w s v fs) : Calls Try.prog 22 #[.pointer (some ⟨s, 0, none⟩), .int .i64 k] w fun e w' => e = .returned (.int .u64 (slotOf fs k)) ∧ Below w.heap.size w w' := by
  rcases nil_or_last fs with rfl | ⟨fs, f, rfl⟩
  · have HC := Aside0.mk (has_none w B s v k h)
    clear h
    rw [show slotOf [] k = 0 from rfl]
    go_enter Try.func22, Try.ntmps22
    go_wp2_with (go_at_call 86; (with_reducible refine HC.out.mono ?_); rintro e wz ⟨rfl, hb⟩; have HB := Aside0.mk hb; clear hb)
    go_ret
    exact ⟨by first | rfl | (simp; done), HB.out⟩
  · obtain ⟨g, c, rfl, c0, c1, _, hc, l1, l2, _⟩ := h.last_
    rw [slotOf_last]
    have HC := Aside0.mk (has_some w B s g c fs f k h)
    clear h
    by_cases hk : 0 ≤ k ∧ k < (f.y.length : Nat)
    · have HD := Aside0.mk (show decide (0 ≤ k ∧ k < (f.y.length : Nat)) = true from decide_eq_true hk)
      rw [if_pos hk]
      obtain ⟨m, rfl⟩ := Int.eq_ofNat_of_zero_le hk.1
      rw [Int.toNat_natCast]
      have hm : m < f.y.length := by omega
      obtain ⟨cm, _⟩ := hc m hm
      have b1 : (m : Int) < (f.y.length : Nat) := hk.2
      clear hc hk
      generalize f.y.getD m 0 = x at cm
      go_enter Try.func22, Try.ntmps22
      go_wp2_with (go_at_call 86; (with_reducible refine HC.out.mono ?_); rw [HD.out]; rintro e w' ⟨rfl, nd, rfl⟩)
      go_ret
      exact ⟨by first | rfl | (simp; done), bel_drew _ _⟩
    · have HD := Aside0.mk (show decide (0 ≤ k ∧ k < (f.y.length : Nat)) = false from decide_eq_false hk)
      rw [if_neg hk]
      clear hc hk
      go_enter Try.func22, Try.ntmps22
      go_wp2_with (go_at_call 86; (with_reducible refine HC.out.mono ?_); rw [HD.out]; rintro e w' ⟨rfl, nd, rfl⟩)
      go_ret
      exact ⟨by first | rfl | (simp; done), bel_drew _ _⟩
/-- The frames with a slot of the last one set. -/
def setY (f : Fr) (k x : Int) : Fr := if 0 ≤ k ∧ k < (f.y.length : Nat) then { f with y := f.y.set k.toNat x } else f
def setOf : List Fr → Int → Int → List Fr
  | [], _, _ => []
  | [f], k, x => [setY f k x]
  | f :: g :: fs, k, x => f :: setOf (g :: fs) k x
theorem setOf_last (fs : List Fr) (f : Fr) (k x : Int) : setOf (fs ++ [f]) k x = fs ++ [setY f k x] := by
  induction fs with
  | nil => rfl
  | cons g fs ih =>
    cases fs with
    | nil => rfl
    | cons g' fs => simp only [List.cons_append, setOf] at ih ⊢; rw [ih]
theorem setY_b (f : Fr) (k x : Int) : (setY f k x).b = f.b := by unfold setY; split <;> rfl
theorem setY_back (f : Fr) (k x : Int) : (setY f k x).back = f.back := by unfold setY; split <;> rfl
theorem setY_length (f : Fr) (k x : Int) : (setY f k x).y.length = f.y.length := by unfold setY; split <;> simp
theorem setY_cells (f : Fr) (k x : Int) : (setY f k x).cells = f.cells := by unfold setY; split <;> simp [Fr.cells]
theorem setOf_map_b (fs : List Fr) (k x : Int) : (setOf fs k x).map Fr.b = fs.map Fr.b := by
  rcases nil_or_last fs with rfl | ⟨fs, f, rfl⟩
  · rfl
  · rw [setOf_last]; simp [setY_b]
theorem setOf_flat (fs : List Fr) (k x : Int) : flat (setOf fs k x) = flat fs := by
  rcases nil_or_last fs with rfl | ⟨fs, f, rfl⟩
  · rfl
  · rw [setOf_last, flat_append, flat_append]; simp [flat, setY_cells]
theorem setOf_length (fs : List Fr) (k x : Int) : (setOf fs k x).length = fs.length := by
  rcases nil_or_last fs with rfl | ⟨fs, f, rfl⟩
  · rfl
  · rw [setOf_last]; simp
theorem drop_take_set (cur y : List Int) (o m : Nat) (x : Int) (hm : m < y.length) (h : (cur.drop o).take y.length = y) : ((cur.set (o + m) x).drop o).take (y.set m x).length = y.set m x := by
  rw [List.length_set, List.drop_set]
  rw [if_neg (by omega), show o + m - o = m by omega, List.take_set, h]
set_option maxHeartbeats 4000000 in
set_option maxRecDepth 100000 in
theorem set_calls (w : World) (B s : Nat) (v : Value) (fs : List Fr) (k x : Int) (h : St B w s v fs) (x0 : 0 ≤ x) (x1 : x < 18446744073709551616) :
    Calls Try.prog 18 #[.pointer (some ⟨s, 0, none⟩), .int .i64 k, .int .u64 x] w fun e w' => e = .returned (.tuple #[]) ∧ St B w' s v (setOf fs k x) ∧ Mods (fun i => i ∈ fs.map Fr.b) w w' := by
  have H := Aside0.mk h
  rcases nil_or_last fs with rfl | ⟨fs, f, rfl⟩
  · have HC := Aside0.mk (has_none w B s v k h)
    clear h
    go_enter Try.func18, Try.ntmps18
    go_wp2_with (go_at_call 86; (with_reducible refine HC.out.mono ?_); rintro e wz ⟨rfl, hb⟩; have HB := Aside0.mk hb; clear hb)
    go_end0
    exact ⟨rfl, H.out.below HB.out, Mods.of_below _ HB.out⟩
  · obtain ⟨g, c, rfl, c0, c1, _, hc, l1, l2, _⟩ := h.last_
    have HC := Aside0.mk (has_some w B s g c fs f k h)
    rw [setOf_last]
    clear h
    by_cases hk : 0 ≤ k ∧ k < (f.y.length : Nat)
    · have HD := Aside0.mk (show decide (0 ≤ k ∧ k < (f.y.length : Nat)) = true from decide_eq_true hk)
      have HE := Aside0.mk (show setY f k x = { f with y := f.y.set k.toNat x } by unfold setY; rw [if_pos hk])
      obtain ⟨m, rfl⟩ := Int.eq_ofNat_of_zero_le hk.1
      rw [Int.toNat_natCast] at HE
      have hm : m < f.y.length := by omega
      obtain ⟨cm, fm⟩ := hc m hm
      have b1 : (m : Int) < (f.y.length : Nat) := hk.2
      clear hc hk
      generalize f.y.getD m 0 = x' at cm
      go_enter Try.func18, Try.ntmps18
      go_wp2_with (go_at_call 86; (with_reducible refine HC.out.mono ?_); rw [HD.out]; rintro e w' ⟨rfl, nd, rfl⟩)
      go_end0
      rw [HE.out]
      refine ⟨rfl, ?_, (((Mods.refl (fun i => i ∈ (fs ++ [f]).map Fr.b) w).drewN nd).setCell (p := ⟨f.b, f.o + m, none⟩) (.inl (by simp)) _)⟩
      obtain ⟨q1, q2, q3, q4, q5, q6, q7⟩ := H.out
      have km : Mods (fun i => i = f.b) w ((w.drewN nd).setCell ⟨f.b, f.o + m, none⟩ (.int .u64 x)) := ((Mods.refl (fun i => i = f.b) w).drewN nd).setCell (p := ⟨f.b, f.o + m, none⟩) (.inl rfl) _
      obtain ⟨hB, ⟨cur, h2, h3, h4⟩, h5, h6, h7⟩ := q4 f (by simp)
      have hrow := q3.ne_type h2 (by decide)
      have hs : s ≠ f.b := blk_ne q1 h2 (by decide)
      have hcs : ({ f with y := f.y.set m x } : Fr).cells = f.cells := by simp [Fr.cells]
      refine ⟨km.blk q1 hs, q2, ?_, ?_, ?_, by simpa using q6, Nat.le_trans q7 km.size⟩
      · have := q3.mods km (fun i hi => fun e => hrow (by rw [hi, e]))
        rw [flat_append] at this ⊢
        simpa [flat, hcs] using this
      · intro f' hf'
        rcases List.mem_append.1 hf' with hf' | hf'
        · refine (q4 f' (by simp [hf'])).mods km ?_
          intro e
          rw [List.map_append, List.nodup_append] at q5
          exact q5.2.2 f'.b (List.mem_map_of_mem hf') f.b (by simp) e
        · rw [List.mem_singleton] at hf'
          subst hf'
          refine ⟨hB, ⟨cur.set (f.o + m) x, ?_, by simp; omega, drop_take_set cur f.y f.o m x hm h4⟩, by simpa using h5, h6, ?_⟩
          · rw [blk_set (w := w.drewN nd) h2 _ _, nums_set]
          · intro z hz
            rcases List.mem_or_eq_of_mem_set hz with hz | rfl
            · exact h7 z hz
            · exact ⟨x0, x1⟩
      · simpa using q5
    · have HD := Aside0.mk (show decide (0 ≤ k ∧ k < (f.y.length : Nat)) = false from decide_eq_false hk)
      have HE := Aside0.mk (show setY f k x = f by unfold setY; rw [if_neg hk])
      clear hc hk
      go_enter Try.func18, Try.ntmps18
      go_wp2_with (go_at_call 86; (with_reducible refine HC.out.mono ?_); rw [HD.out]; rintro e w' ⟨rfl, nd, rfl⟩)
      go_end0
      rw [HE.out]
      exact ⟨rfl, H.out, (Mods.refl _ w).drewN nd⟩
/-- The slice of the frames without the last one. -/
def popV (v : Value) (fs : List Fr) : Value := match v with | .slice A n c => if fs = [] then v else .slice A (n - 1) (n - 1) | _ => v
theorem popV_own (v : Value) (fs : List Fr) : (popV v fs).ownBlock = v.ownBlock := by
  unfold popV; split
  · split
    · rfl
    · rename_i A n c _; cases A <;> rfl
  · rfl
set_option maxHeartbeats 4000000 in
set_option maxRecDepth 100000 in
theorem pop_calls (w : World) (B s : Nat) (v : Value) (fs : List Fr) (h : St B w s v fs) : Calls Try.prog 23 #[.pointer (some ⟨s, 0, none⟩)] w fun e w' => e = .returned (.int .i64 (backOf fs)) ∧ St B w' s (popV v fs) fs.dropLast ∧ Mods (fun i => i = s) w w' := by
  have H := Aside0.mk h
  rcases nil_or_last fs with rfl | ⟨fs, f, rfl⟩
  · have HB := Aside0.mk (bel_alloc w (.cells #[.int .i64 (-1), .slice none 0 0] 118))
    have HC := Aside0.mk (last_none w B s v h)
    obtain ⟨A, c, rfl, _⟩ := h.2.2.1.form
    clear h
    go_enter Try.func23, Try.ntmps23
    go_wp2_with (go_at_call 85; (with_reducible refine HC.out.mono ?_); rintro e w' ⟨rfl, rfl⟩)
    go_ret
    exact ⟨by first | rfl | (simp; done), H.out.below HB.out, Mods.of_below _ HB.out⟩
  · obtain ⟨g, c, rfl, c0, _, _, _, _, _, hc⟩ := h.last_
    have HC := Aside0.mk (last_some w B s g c fs f h)
    have s0 := h.c0
    have sf := h.f0
    rw [List.length_append, List.length_singleton] at s0 hc
    have hl : fs.length ≤ 4000 := by have := h.2.2.2.2.2.1; simp at this; omega
    have hgs : g ≠ s := fun e => h.2.2.1.ne_type h.1 (by decide) (by simp [Value.ownBlock, e])
    rw [backOf_last]
    clear h
    go_enter Try.func23, Try.ntmps23
    have hgs2 : ∀ u W, (World.setCell W ⟨s, 0, none⟩ u).cell? ⟨g, fs.length * 2, none⟩ = W.cell? ⟨g, fs.length * 2, none⟩ := fun u W => World.cell?_setCell_far W _ _ u (by simpa using Ne.symm hgs)
    go_wp2_with (go_at_call 85; (with_reducible refine HC.out.mono ?_); rintro e w2 ⟨rfl, nd, hw⟩; have HW := Aside0.mk hw; have s1 : w2.cell? ⟨s, 0, none⟩ = some (.slice (some ⟨g, 0, none⟩) (fs.length + 1) c) := (by rw [hw]; exact s0); have sf1 : w2.frozen? ⟨s, 0, none⟩ = false := (by rw [hw]; exact sf); have c1 : w2.cell? ⟨g, fs.length * 2, none⟩ = some (.int .i64 f.back) := (by rw [hw]; exact c0); clear hw)
    have q1 : IntKind.i64.wrap (fs.length : Int) = (fs.length : Int) := by rw [IntKind.wrap_i64]; omega
    have q2 : (fs.length : Int) ≤ (fs.length : Int) + 1 := by omega
    have q3 : (fs.length : Int) ≤ (c : Int) := by omega
    go_still_tail 20, (by kernel_rfl)
    change wpList _ _ _ _ _ w2.drew
    clear q1
    go_wp2
    go_ret
    refine ⟨by first | rfl | (simp; done), ?_, ?_⟩
    · obtain ⟨q1, q2, q3, q4, q5, q6, q7⟩ := H.out
      rw [show (fs ++ [f]).dropLast = fs by simp, show popV (.slice (some ⟨g, 0, none⟩) (fs ++ [f]).length c) (fs ++ [f]) = .slice (some ⟨g, 0, none⟩) fs.length fs.length by simp [popV]]
      have km : Mods (fun i => i = s) w ((w2.setCell ⟨s, 0, none⟩ (.slice (some ⟨g, 0, none⟩) fs.length fs.length)).drew) := by
        rw [HW.out]
        exact (((Mods.refl (fun i => i = s) w).drewN nd).setCell (p := ⟨s, 0, none⟩) (.inl rfl) _).drew
      have hs2 : w2.heap[s]? = some (.cells #[.slice (some ⟨g, 0, none⟩) (fs ++ [f]).length c] 116 (0, 0)) := by rw [HW.out]; exact q1
      refine ⟨?_, q2, ?_, ?_, ?_, by simp at q6; omega, Nat.le_trans q7 km.size⟩
      · show (w2.setCell ⟨s, 0, none⟩ (.slice (some ⟨g, 0, none⟩) fs.length fs.length)).heap[s]? = _
        rw [blk_set hs2 0 _]; simp
      · have := (q3.cut rfl fs.length (by simp)).mods km (fun i hi => fun e => hgs (by simp [Value.ownBlock] at hi; omega))
        rwa [flat_append, show fs.length * 2 = (flat fs).length from (flat_length fs).symm, List.take_left'  rfl] at this
      · intro f' hf'
        obtain ⟨hB, ⟨cur, h2, h3⟩, h4⟩ := q4 f' (by simp [hf'])
        exact FrOk.mods ⟨hB, ⟨cur, h2, h3⟩, h4⟩ km (fun e => blk_ne h2 q1 (by decide) e)
      · rw [List.map_append, List.nodup_append] at q5
        exact q5.1
    · rw [HW.out]
      exact (((Mods.refl (fun i => i = s) w).drewN nd).setCell (p := ⟨s, 0, none⟩) (.inl rfl) _).drew
end Go.Proofs.YthdmacdeefohkaaStk
