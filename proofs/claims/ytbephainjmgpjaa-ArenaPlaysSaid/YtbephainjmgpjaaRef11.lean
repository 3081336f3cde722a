/- The contracts of the document's own arena (relictref11): a list of used words, a size. -/
import Derived.Test.YtbephainjmgpjaaArw
import Derived.Test.YtbephainjmgpjaaWRef
import Derived.Test.YtbephainjmgpjaaWZeros
namespace Go.Proofs.YtbephainjmgpjaaRef11
open Go.RowKit Go.Proofs.YtbephainjmgpjaaW.PrintWords Go.Proofs.YtbephainjmgpjaaW.PrintLast Go.Proofs.YtbephainjmgpjaaW.PrintMore Go.Proofs.YtbephainjmgpjaaMem Go.Proofs.YtbephainjmgpjaaBits Go.Proofs Go.Proofs.YtbephainjmgpjaaAr Go.Proofs.Ytbephainjmgpjaa.PWordAll Go.Proofs.YtbephainjmgpjaaWRef
attribute [local go_sem] max2_int min2_int max_two min_two max_three min_three max_four min_four
set_option linter.unusedVariables false
set_option linter.unusedSimpArgs false
/-- The document's arena at block r: its size n, its words l, which lie in a row of their own from block B on. -/
def RA (B : Nat) (w : World) (r : Nat) (v : Value) (l : List Int) (n : Nat) : Prop :=
  w.heap[r]? = some (.cells #[.int .i64 (n : Nat), v] 53 (0, 0)) ∧ w.ownsRow B 23 1 v l.length (nums .u64 l) ∧ l.length ≤ n ∧ n ≤ 32768 ∧ W64 l
/-- Its blocks. -/
def FR (r : Nat) (v : Value) (k : Nat) : Prop := k = r ∨ some k = v.ownBlock
section
variable {w w' : World} {B r n : Nat} {v : Value} {l : List Int} {S : Nat → Prop}
theorem own_mods {base e size m : Nat} {xs : List Value} (h : w.ownsRow base e size v m xs) (k : Mods S w w') (hs : ∀ i, v.ownBlock = some i → ¬ S i) : w'.ownsRow base e size v m xs := by
  refine ⟨h.1, ?_⟩
  rcases h.2 with hn | ⟨g, cap, cur, rfl, hb, hgg, rest⟩
  · exact .inl hn
  · exact .inr ⟨g, cap, cur, rfl, hb, k.blk hgg (hs g rfl), rest⟩
theorem RA.mods (h : RA B w r v l n) (k : Mods S w w') (h1 : ¬ S r) (h2 : ∀ i, v.ownBlock = some i → ¬ S i) : RA B w' r v l n := ⟨k.blk h.1 h1, own_mods h.2.1 k h2, h.2.2⟩
theorem RA.below (h : RA B w r v l n) (k : Below w.heap.size w w') : RA B w' r v l n := h.mods (Mods.of_below (fun _ => False) k) id (fun _ _ => id)
theorem RA.drewN (h : RA B w r v l n) (m : Nat) : RA B (w.drewN m) r v l n := h
theorem RA.c0 (h : RA B w r v l n) : w.cell? ⟨r, 0, none⟩ = some (.int .i64 (n : Nat)) := (blk_cell h.1 0).trans rfl
theorem RA.c1 (h : RA B w r v l n) : w.cell? ⟨r, 1, none⟩ = some v := (blk_cell h.1 1).trans rfl
theorem RA.f1 (h : RA B w r v l n) : w.frozen? ⟨r, 1, none⟩ = false := blk_frozen h.1 1
theorem RA.form (h : RA B w r v l n) : ∃ A c, v = .slice A l.length c ∧ ReadsInt w .u64 A l.length l := own_reads h.2.1
theorem RA.ne (h : RA B w r v l n) : some r ≠ v.ownBlock := own_ne h.2.1 h.1 (by decide)
end

/-- append(v, make([]T, m)...) at whole numbers, in a plain region. -/
theorem wp_append_zeros {P : Program} {ops : Array Oper} {rest : List Oper} {o : Oper} {a : Act} {Q : Exit → Act → World → Prop} {W : World} (base : Nat) (hgd : o.guard = none) (s x : Operand) (t ti e : TypeId) (k : IntKind) (bytes : Nat)
    (ho : o.op = .call { callee := .builtin .append, args := #[s, x], argTypes := #[t, ti] })
    (ht : P.underlying t = some (.slice e)) {ki : IntKind} (hti : P.underlying ti = some (.int ki)) (hinfo : (P.info? e).map (fun i => (i.zero, i.size, i.bytes)) = some (some (.int k 0), 1, bytes)) (hb0 : 0 < bytes)
    (v : Value) (xs : List Int) (kx : IntKind) (m : Nat) (hs : a.eval s = v) (hx : a.eval x = .int kx (m : Nat))
    (HO : W.ownsRow base e 1 v xs.length (nums k xs)) (hbase : base ≤ W.heap.size) (hl : (xs.length + m) * bytes ≤ 140737488355328)
    (h : ∀ A c w1, w1.ownsRow base e 1 (.slice A (xs ++ List.replicate m 0).length c) (xs ++ List.replicate m 0).length (nums k (xs ++ List.replicate m 0)) → W.grownBy w1 v.ownBlock → ((Value.slice A (xs ++ List.replicate m 0).length c).ownBlock = v.ownBlock ∨ (Value.slice A (xs ++ List.replicate m 0).length c).ownBlock = some W.heap.size) → wpList P ops Q rest (a.put o.dst (.slice A (xs ++ List.replicate m 0).length c)) w1) :
    wpList P ops Q (o :: rest) a W := by
  obtain ⟨i0, hi, hzz⟩ := Option.map_eq_some_iff.1 hinfo
  simp only [Prod.mk.injEq] at hzz
  obtain ⟨hz0, hz1, hz2⟩ := hzz
  have hz : (Builtin.zeroCells (Value.int k 0).cells m).toList = nums k (List.replicate m 0) := by
    apply List.ext_getElem
    · rw [Array.length_toList, size_zeroCells]; simp [nums, Value.cells]
    · intro i h1 h2
      simp [nums, Builtin.zeroCells, Value.cells, Nat.mod_one]
  obtain ⟨v1, w1, hr, h2, hg, hat⟩ := run_append_zeros (P := P) W base t ti o.type e i0 (.int k 0) 1 bytes ht hti hi hz0 hz1 hz2 rfl (by decide) hb0 v xs.length (nums k xs) HO kx m
    (by rw [hz]; intro u hu; simp only [nums, List.mem_map] at hu; obtain ⟨q, _, rfl⟩ := hu; rfl) hl hbase
  have h3 : w1.ownsRow base e 1 v1 (xs ++ List.replicate m 0).length (nums k (xs ++ List.replicate m 0)) := by
    rw [hz, ← nums_append] at h2; simpa using h2
  obtain ⟨A, c, rfl⟩ := own_slice h3
  refine wpList_plain hgd fun K hK => ?_
  unfold Oper.wp execOp
  simp only [ho, resolve, invoke, builtin, Sem.run_bind, Sem.run_pure, Result.andThen_ok, List.map_toArray, List.map_cons, List.map_nil, hs, hx, hr]
  exact hK _ _ (h A c w1 h3 hg hat)

set_option maxHeartbeats 4000000 in
set_option maxRecDepth 100000 in
theorem rnew_calls (a : Int) (w : World) (B : Nat) : Calls Try.prog 42 #[.int .i64 a] w fun e w' => e = .returned (.pointer (some ⟨w.heap.size, 0, none⟩)) ∧ RA B w' w.heap.size (.slice none 0 0) [] (sizeA a) ∧ Below w.heap.size w w' := by
  have hm : sizeA a ≤ 32768 := by unfold sizeA; (repeat' split) <;> omega
  obtain ⟨j, hj⟩ : ∃ j : Int, (if a < 0 then 0 else a) = j := ⟨_, rfl⟩
  have hj2 : (if 32768 < j then 32768 else j) = ((sizeA a : Nat) : Int) := by rw [← hj]; unfold sizeA; (repeat' split) <;> omega
  go_enter Try.func42, Try.ntmps42
  go_wp2
  go_ret
  clear hj hj2
  refine ⟨by first | rfl | (simp; done), ?_, by repeat (first | exact Below.refl _ _ | apply below_alloc)⟩
  exact ⟨by simpa using heap_alloc_new w _, own_nil _ _ _ _, by simp, hm, fun x hx => by simp at hx⟩

/-- What the document's Alloc leaves. -/
def RAllocPost (B r : Nat) (v : Value) (l : List Int) (n : Nat) (k : Int) (w : World) (e : Ending) (w' : World) : Prop :=
  e = .returned (.tuple #[.int .i64 (atA l n k), .bool (okA l n k)]) ∧ ∃ v', RA B w' r v' (resA l n k) n ∧ Mods (FR r v) w w' ∧ (v'.ownBlock = v.ownBlock ∨ ∃ b, v'.ownBlock = some b ∧ w.heap.size ≤ b)
set_option maxHeartbeats 4000000 in
set_option maxRecDepth 100000 in
theorem ralloc_calls (w : World) (B r n : Nat) (v : Value) (l : List Int) (k : Int) (h : RA B w r v l n) (hB : B ≤ w.heap.size) :
    Calls Try.prog 43 #[.pointer (some ⟨r, 0, none⟩), .int .i64 k] w (RAllocPost B r v l n k w) := by
  have H := Aside0.mk h
  have hl := h.2.2.1
  have hn := h.2.2.2.1
  have c0 := h.c0
  have c1 := h.c1
  have f1 := h.f1
  obtain ⟨A, c, hv, _⟩ := h.form
  have HV := Aside0.mk hv
  clear h
  by_cases h0 : k < 0
  · have e1 : okA l n k = false := by unfold okA; simp; omega
    have e2 : resA l n k = l := by unfold resA; rw [e1]; rfl
    have e3 : atA l n k = 0 := by unfold atA; rw [e1]; rfl
    have HE := Aside0.mk (And.intro e1 (And.intro e2 e3))
    clear e1 e2 e3
    have h0b : decide (k < 0) = true := decide_eq_true h0
    rw [hv] at c1
    clear hv
    go_enter Try.func43, Try.ntmps43
    go_wp2
    repeat (go_quiet (fail); try go_wp2)
    go_ret2
    unfold RAllocPost
    rw [HE.out.1, HE.out.2.1, HE.out.2.2]
    exact ⟨by first | rfl | (simp; done), v, H.out, (Mods.refl (FR r v) w).drewN _, .inl rfl⟩
  · have h0b : decide (k < 0) = false := decide_eq_false h0
    have h0c : 0 ≤ k := by omega
    by_cases h1 : k > (n : Int) - l.length
    · have e1 : okA l n k = false := by unfold okA; simp; omega
      have e2 : resA l n k = l := by unfold resA; rw [e1]; rfl
      have e3 : atA l n k = 0 := by unfold atA; rw [e1]; rfl
      have HE := Aside0.mk (And.intro e1 (And.intro e2 e3))
      clear e1 e2 e3
      have h1b : decide ((n : Int) - (l.length : Nat) < k) = true := decide_eq_true h1
      rw [hv] at c1
      clear hv
      go_enter Try.func43, Try.ntmps43
      go_wp2
      repeat (go_quiet (fail); try go_wp2)
      go_ret2
      unfold RAllocPost
      rw [HE.out.1, HE.out.2.1, HE.out.2.2]
      exact ⟨by first | rfl | (simp; done), v, H.out, (Mods.refl (FR r v) w).drewN _, .inl rfl⟩
    · have e1 : okA l n k = true := by unfold okA; simp; omega
      have e2 : resA l n k = l ++ List.replicate k.toNat 0 := by unfold resA; rw [e1]; rfl
      have e3 : atA l n k = (l.length : Nat) := by unfold atA; rw [e1]; rfl
      have HE := Aside0.mk (And.intro e1 (And.intro e2 e3))
      clear e1 e2 e3
      have h1b : decide ((n : Int) - (l.length : Nat) < k) = false := decide_eq_false h1
      have h1c : k ≤ (n : Int) - (l.length : Nat) := by omega
      obtain ⟨m, rfl⟩ := Int.eq_ofNat_of_zero_le h0c
      have hO := H.out.2.1
      have hne := H.out.ne
      rw [hv] at c1 hO hne
      have HO := Aside0.mk hO
      have HNE := Aside0.mk hne
      clear hv hO hne
      go_enter Try.func43, Try.ntmps43
      go_wp2
      go_quiet (fail)
      go_wp2_with (at_builtin; refine wp_append_zeros (W := w.drewN nq) B rfl (.tmp 32) (.tmp 33) 39 3 23 .u64 8 rfl Try.underlying39 Try.underlying3 info64 (by decide) (.slice A l.length c) l .i64 m rfl rfl HO.out hB (by omega) ?_; intro A1 cc w1 hown hg hat; have HO1 := Aside0.mk hown; have HG := Aside0.mk hg; have HAT := Aside0.mk hat; have c11 := hg.cell (a := ⟨r, 1, none⟩) c1 HNE.out; have f11 : w1.frozen? ⟨r, 1, none⟩ = false := (World.frozen?_of_block (hg.block r (blk_lt H.out.1) HNE.out)).trans f1; clear hown hg hat)
      go_ret2
      unfold RAllocPost
      rw [HE.out.1, HE.out.2.1, HE.out.2.2, Int.toNat_natCast]
      have hr1 := blk_grown (w := w.drewN nq) H.out.1 HG.out HNE.out
      have hne1 := own_ne HO1.out hr1 (by decide)
      refine ⟨by first | rfl | (simp; done), _, ⟨?_, own_setCell HO1.out (p := ⟨r, 1, none⟩) hne1 _, by simp; omega, hn, H.out.2.2.2.2.app m⟩, ?_, ?_⟩
      · rw [blk_set hr1 1 _]; simp
      · refine Mods.setCell (p := ⟨r, 1, none⟩) ?_ (.inl (.inl rfl)) _
        refine ((Mods.refl (FR r v) w).drewN nq).trans' (Mods.of_grown HG.out) fun i hi => .inl (.inr ?_)
        rw [HV.out]; exact hi
      · rw [HV.out]
        rcases HAT.out with hh | hh
        · exact .inl hh
        · exact .inr ⟨_, hh, Nat.le_refl _⟩
set_option maxHeartbeats 4000000 in
set_option maxRecDepth 100000 in
theorem rset_calls (w : World) (B r n : Nat) (v : Value) (l : List Int) (k x : Int) (h : RA B w r v l n) (x0 : 0 ≤ x) (x1 : x < 18446744073709551616) :
    Calls Try.prog 44 #[.pointer (some ⟨r, 0, none⟩), .int .i64 k, .int .u64 x] w fun e w' => e = .returned (.tuple #[]) ∧ RA B w' r v (setA l k x) n ∧ Mods (FR r v) w w' := by
  have H := Aside0.mk h
  have hl := h.2.2.1
  have hn := h.2.2.2.1
  have c1 := h.c1
  obtain ⟨A, c, hv, _⟩ := h.form
  have HV := Aside0.mk hv
  by_cases h0 : 0 ≤ k
  · by_cases h1 : k < (l.length : Nat)
    · have e1 : setA l k x = l.set k.toNat x := by unfold setA; rw [if_pos ⟨h0, h1⟩]
      rw [e1]
      obtain ⟨m, rfl⟩ := Int.eq_ofNat_of_zero_le h0
      rw [Int.toNat_natCast]
      have hO := h.2.1
      rw [hv] at c1 hO
      obtain ⟨g, cap, hf, hgb, hgl⟩ := hO.form (by omega)
      injection hf with hA _ hc
      subst hA
      have hat := own_at hO (m : Int) h0 h1
      rw [Int.toNat_natCast] at hat
      obtain ⟨cm, fm⟩ := hat
      have HO := Aside0.mk hO
      clear h hv hO e1
      generalize rd l m = y at cm
      go_enter Try.func44, Try.ntmps44
      go_wp2
      repeat (go_quiet (fail); try go_wp2)
      go_end0
      have hne : r ≠ g := fun hh => H.out.ne (by rw [HV.out, hh]; rfl)
      refine ⟨rfl, ⟨?_, ?_, by rw [List.length_set]; exact hl, hn, H.out.2.2.2.2.set m x x0 x1⟩, ?_⟩
      · exact blk_far H.out.1 (p := ⟨g, m, none⟩) hne _
      · have := (own_store HO.out (m : Int) x).1
        rw [Int.toNat_natCast] at this
        rw [List.length_set, HV.out]
        exact this
      · exact (Mods.refl (FR r v) w).setCell (p := ⟨g, m, none⟩) (.inl (.inr (by rw [HV.out]; rfl))) _
    · have e1 : setA l k x = l := by unfold setA; rw [if_neg (fun hh => h1 hh.2)]
      rw [e1]
      rw [hv] at c1
      clear h hv e1
      go_enter Try.func44, Try.ntmps44
      go_wp2
      repeat (go_quiet (fail); try go_wp2)
      go_end0
      exact ⟨rfl, H.out, Mods.refl _ _⟩
  · have e1 : setA l k x = l := by unfold setA; rw [if_neg (fun hh => h0 hh.1)]
    rw [e1]
    rw [hv] at c1
    clear h hv e1
    go_enter Try.func44, Try.ntmps44
    go_wp2
    repeat (go_quiet (fail); try go_wp2)
    go_end0
    exact ⟨rfl, H.out, Mods.refl _ _⟩
set_option maxHeartbeats 4000000 in
set_option maxRecDepth 100000 in
theorem rword_calls (w : World) (B r n : Nat) (v : Value) (l : List Int) (k : Int) (h : RA B w r v l n) :
    Calls Try.prog 46 #[.pointer (some ⟨r, 0, none⟩), .int .i64 k] w fun e w' => e = .returned (.int .u64 (wordA l k)) ∧ ∃ nd, w' = w.drewN nd := by
  have hl := h.2.2.1
  have hn := h.2.2.2.1
  have c1 := h.c1
  obtain ⟨A, c, hv, hrd⟩ := h.form
  rw [hv] at c1
  clear hv h
  by_cases h0 : 0 ≤ k
  · have h0b : ¬ k < 0 := by omega
    by_cases h1 : k < (l.length : Nat)
    · obtain ⟨ad, rfl, hc⟩ := hrd.at_ k h0 h1
      have e1 : wordA l k = rd l k := by unfold wordA rd; rw [if_pos ⟨h0, h1⟩]
      rw [e1]
      generalize rd l k = y at hc
      obtain ⟨m, rfl⟩ := Int.eq_ofNat_of_zero_le h0
      rw [Int.toNat_natCast] at hc
      clear hrd e1
      go_enter Try.func46, Try.ntmps46
      go_wp2
      repeat (go_quiet (fail); try go_wp2)
      go_ret
      exact ⟨by first | rfl | (simp; done), by first | exact ⟨0, rfl⟩ | exact ⟨_, rfl⟩⟩
    · have e1 : wordA l k = 0 := by unfold wordA; rw [if_neg (fun hh => h1 hh.2)]
      rw [e1]
      clear hrd e1
      go_enter Try.func46, Try.ntmps46
      go_wp2
      repeat (go_quiet (fail); try go_wp2)
      go_ret
      exact ⟨by first | rfl | (simp; done), by first | exact ⟨0, rfl⟩ | exact ⟨_, rfl⟩⟩
  · have h0b : k < 0 := by omega
    have e1 : wordA l k = 0 := by unfold wordA; rw [if_neg (fun hh => h0 hh.1)]
    rw [e1]
    clear hrd e1
    go_enter Try.func46, Try.ntmps46
    go_wp2
    repeat (go_quiet (fail); try go_wp2)
    go_ret
    exact ⟨by first | rfl | (simp; done), by first | exact ⟨0, rfl⟩ | exact ⟨_, rfl⟩⟩
set_option maxHeartbeats 4000000 in
set_option maxRecDepth 100000 in
theorem rextent_calls (w : World) (B r n : Nat) (v : Value) (l : List Int) (k : Int) (h : RA B w r v l n) :
    Calls Try.prog 47 #[.pointer (some ⟨r, 0, none⟩), .int .i64 k] w fun e w' => e = .returned (.int .i64 (extA l k)) ∧ ∃ nd, w' = w.drewN nd := by
  have hl := h.2.2.1
  have hn := h.2.2.2.1
  have c1 := h.c1
  have hW := h.2.2.2.2
  obtain ⟨A, c, hv, hrd⟩ := h.form
  rw [hv] at c1
  clear hv h
  by_cases h0 : 0 ≤ k
  · have h0b : ¬ k < 0 := by omega
    by_cases h1 : k < (l.length : Nat)
    · obtain ⟨ad, rfl, hc⟩ := hrd.at_ k h0 h1
      have hw := hW.getD k.toNat
      have e1 : extA l k = if extW l k ≤ (l.length : Nat) - k then extW l k else 0 := by unfold extA; rw [if_pos ⟨h0, h1⟩]
      have e2 : extW l k = if rd l k % 4 = 0 then 1 + rd l k / 64 else 2 := rfl
      have hw2 : 0 ≤ rd l k ∧ rd l k < 18446744073709551616 := hw
      rw [e1]
      generalize extW l k = x at e2 ⊢
      clear e1 hw hW hrd
      generalize rd l k = y at hw2 e2 hc
      obtain ⟨m, rfl⟩ := Int.eq_ofNat_of_zero_le h0
      rw [Int.toNat_natCast] at hc
      have hd := ref_headOf_eq y hw2.1 hw2.2
      by_cases hy : y % 4 = 0
      · rw [if_pos hy] at e2
        have hdi : headOfI y = (y / 4 % 16, y / 64, true) := by unfold headOfI; rw [if_pos hy]
        rw [hdi] at hd
        have HD := Aside0.mk hd
        have hz : 0 ≤ y / 64 ∧ y / 64 ≤ 288230376151711744 := by omega
        generalize y / 64 = z at e2 HD hz
        generalize y / 4 % 16 = u at HD
        obtain ⟨hz0, hz1⟩ := hz
        subst e2
        clear hd hdi hw2 hy
        by_cases hbig : z > (l.length : Nat)
        · have hx : ¬ 1 + z ≤ (l.length : Nat) - (m : Int) := by omega
          rw [if_neg hx]
          go_enter Try.func47, Try.ntmps47
          go_wp2_with (go_at_call 33; refine (relictref10_HeadOf.calls y u z true _ HD.out).mono ?_; rintro e w' ⟨rfl, ⟨nd3, rfl⟩⟩)
          go_ret
          exact ⟨by first | rfl | (simp; done), by first | exact ⟨0, rfl⟩ | exact ⟨_, rfl⟩⟩
        · have hbig2 : z ≤ (l.length : Nat) := by omega
          by_cases hx : 1 + z ≤ (l.length : Nat) - (m : Int)
          · rw [if_pos hx]
            go_enter Try.func47, Try.ntmps47
            go_wp2_with (go_at_call 33; refine (relictref10_HeadOf.calls y u z true _ HD.out).mono ?_; rintro e w' ⟨rfl, ⟨nd3, rfl⟩⟩)
            go_ret
            exact ⟨by first | rfl | (simp; done), by first | exact ⟨0, rfl⟩ | exact ⟨_, rfl⟩⟩
          · rw [if_neg hx]
            go_enter Try.func47, Try.ntmps47
            go_wp2_with (go_at_call 33; refine (relictref10_HeadOf.calls y u z true _ HD.out).mono ?_; rintro e w' ⟨rfl, ⟨nd3, rfl⟩⟩)
            go_ret
            exact ⟨by first | rfl | (simp; done), by first | exact ⟨0, rfl⟩ | exact ⟨_, rfl⟩⟩
      · rw [if_neg hy] at e2
        have hdi : headOfI y = (0, 0, false) := by unfold headOfI; rw [if_neg hy]
        rw [hdi] at hd
        have HD := Aside0.mk hd
        subst e2
        clear hd hdi hw2 hy
        by_cases hx : 2 ≤ (l.length : Nat) - (m : Int)
        · rw [if_pos hx]
          go_enter Try.func47, Try.ntmps47
          go_wp2_with (go_at_call 33; refine (relictref10_HeadOf.calls y 0 0 false _ HD.out).mono ?_; rintro e w' ⟨rfl, ⟨nd3, rfl⟩⟩)
          go_ret
          exact ⟨by first | rfl | (simp; done), by first | exact ⟨0, rfl⟩ | exact ⟨_, rfl⟩⟩
        · rw [if_neg hx]
          go_enter Try.func47, Try.ntmps47
          go_wp2_with (go_at_call 33; refine (relictref10_HeadOf.calls y 0 0 false _ HD.out).mono ?_; rintro e w' ⟨rfl, ⟨nd3, rfl⟩⟩)
          go_ret
          exact ⟨by first | rfl | (simp; done), by first | exact ⟨0, rfl⟩ | exact ⟨_, rfl⟩⟩
    · have e1 : extA l k = 0 := by unfold extA; rw [if_neg (fun hh => h1 hh.2)]
      rw [e1]
      clear hrd e1 hW
      go_enter Try.func47, Try.ntmps47
      go_wp2
      go_ret
      exact ⟨by first | rfl | (simp; done), by first | exact ⟨0, rfl⟩ | exact ⟨_, rfl⟩⟩
  · have h0b : k < 0 := by omega
    have e1 : extA l k = 0 := by unfold extA; rw [if_neg (fun hh => h0 hh.1)]
    rw [e1]
    clear hrd e1 hW
    go_enter Try.func47, Try.ntmps47
    go_wp2
    go_ret
    exact ⟨by first | rfl | (simp; done), by first | exact ⟨0, rfl⟩ | exact ⟨_, rfl⟩⟩
set_option maxHeartbeats 4000000 in
set_option maxRecDepth 100000 in
theorem same_calls (w : World) (A A' : Option Addr) (m c c' : Nat) (xs : List Int) (h : ReadsInt w .u64 A m xs) (h' : ReadsInt w .u64 A' m xs) :
    Calls Try.prog 48 #[.slice A m c, .slice A' m c'] w fun e w' => e = .returned (.bool true) ∧ ∃ nd, w' = w.drewN nd := by
  have hm := h.2.1
  have H := Aside0.mk h
  have H' := Aside0.mk h'
  clear h h'
  go_enter Try.func48, Try.ntmps48
  go_wp2
  go_loopg [5] (m + 1) (fun k v5 wr => ∃ i : Nat, v5 = .int .i64 i ∧ i ≤ m ∧ k = m + 1 - i ∧ ∃ nd, wr = w.drewN nd)
  case atStart => exact ⟨0, rfl, by omega, by omega, 0, rfl⟩
  case round =>
    obtain ⟨i, rfl, hi, rfl, nd, rfl⟩ := hrel
    by_cases hlt : i < m
    · obtain ⟨ad, e1, hc⟩ := H.out.at_ (i : Int) (by omega) (by omega)
      obtain ⟨ad', e1', hc'⟩ := H'.out.at_ (i : Int) (by omega) (by omega)
      subst e1
      subst e1'
      rw [Int.toNat_natCast] at hc hc'
      generalize rd xs i = y at hc hc'
      have b1 : (i : Int) < (m : Int) := by omega
      go_wp2
      go_quiet (fail)
      go_wp2
      go_roundg (m + 1 - (i + 1))
      case measure => omega
      case rel => exact ⟨i + 1, by go_num, by omega, rfl, _, rfl⟩
    · have hie : i = m := by omega
      subst hie
      go_wp2
      go_ret
      exact ⟨by first | rfl | (simp; done), nd, rfl⟩
end Go.Proofs.YtbephainjmgpjaaRef11
