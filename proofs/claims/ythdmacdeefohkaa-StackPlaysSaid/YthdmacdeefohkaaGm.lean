/- The document's stack: Trim. -/
import Derived.Test.YthdmacdeefohkaaGt
import Derived.Test.YthdmacdeefohkaaTm
namespace Go.Proofs.YthdmacdeefohkaaGm
open Go.RowKit Go.Proofs.YthdmacdeefohkaaW.PrintWords Go.Proofs.YthdmacdeefohkaaW.PrintLast Go.Proofs.YthdmacdeefohkaaW.PrintMore Go.Proofs.YthdmacdeefohkaaMem Go.Proofs.YthdmacdeefohkaaRow Go.Proofs.YthdmacdeefohkaaRowK Go.Proofs.YthdmacdeefohkaaBits Go.Proofs.YthdmacdeefohkaaGs Go.Proofs.YthdmacdeefohkaaGt Go.Proofs
open Go.Proofs.YthdmacdeefohkaaStk (W64 info64 bel_alloc bel_drew)
open Go.Proofs.YthdmacdeefohkaaTm (trimN trimN_le)
attribute [local go_sem] max2_int min2_int max_two min_two max_three min_three max_four min_four
set_option linter.unusedVariables false
set_option linter.unusedSimpArgs false
def T3 : Bool × List (List Nat × List Nat) := (true, [([], []), ([0], [0]), ([1], [1]), ([2], [2]), ([], []), ([4], [4]), ([], []), ([], []), ([], []), ([8], [8]), ([7, 9], [7, 9]), ([6, 10], [6, 10]), ([11], [11]), ([3, 5, 0, 1, 2, 3, 4, 5, 6, 7, 8, 9, 10, 11, 12], [3, 5]), ([13, 0, 1, 2, 3, 4, 5, 6, 7, 8, 9, 10, 11, 12], [13]), ([14, 12, 12, 0, 1, 2, 3, 4, 5, 6, 7, 8, 9, 10, 11, 12], [12, 14])])
def B3 : List Nat := [0, 1, 3, 7, 0, 16, 0, 0, 0, 256, 896, 1984, 4032, 8191, 16383, 32767]
theorem tab3 : rtab .any (opsOf Try.f57 3) = T3 := by kernel_rfl
theorem bits3 : waitsOk T3.2 B3 = true := by kernel_rfl
set_option maxHeartbeats 2000000 in
set_option maxRecDepth 100000 in
/-- append onto nil. -/
theorem append_nil_step {w0 W : World} {ops : Array Oper} {o : Oper} {a : Act} {Kc : Act → World → Prop} {Q : Exit → Act → World → Prop} (base : Nat) (hw : Region.wanted o (yielded ops a.tmps) = true) (s x : Operand)
    (ho : o.op = .call { callee := .builtin .append, args := #[s, x], argTypes := #[33, 33] })
    (ys : List Int) (A : Option Addr) (m c : Nat) (hs : a.eval s = .slice none 0 0) (hx : a.eval x = .slice A m c) (HR : ReadsInt W .u64 A m ys) (HB : Below base w0 W) (hbase : base ≤ W.heap.size) (hl : m ≤ 1000000)
    (h : ∀ v1 w1, Row w1 base 29 1 v1 ys.length (nums .u64 ys) → Below base w0 w1 → Below W.heap.size W w1 → (∀ k, v1.ownBlock = some k → W.heap.size ≤ k) → Kc (a.put o.dst v1) w1) :
    if Region.wanted o (yielded ops a.tmps) = true then Oper.wp Try.prog o a W Kc Q else Kc (a.put o.dst undef) W := by
  obtain ⟨i0, hi, hzz⟩ := Option.map_eq_some_iff.1 info64
  simp only [Prod.mk.injEq] at hzz
  obtain ⟨hz0, hz1, hz2⟩ := hzz
  have ht := Try.underlying33
  have hm : ys.length = m := HR.1
  have hrun : ∃ v1 w1, (Builtin.append_ #[33, 33] o.type #[.slice none 0 0, .slice A m c]).run Try.prog W = .ok v1 w1 ∧ w1.ownsRow base 29 1 v1 ys.length (nums .u64 ys) ∧ W.grownBy w1 none ∧ (∀ k, v1.ownBlock = some k → W.heap.size ≤ k) := by
    rcases A with _ | ad
    · have h0 : m = 0 := by
        rcases Nat.eq_zero_or_pos m with h0 | h0
        · exact h0
        · obtain ⟨ad, h, _⟩ := HR.2.2 h0
          cases h
      subst h0
      obtain rfl : ys = [] := List.eq_nil_of_length_eq_zero hm
      refine ⟨.slice none 0 0, W, ?_, World.ownsRow_nil _ _ _ _, World.grownBy.refl W _, fun k hk => by simp [Value.ownBlock] at hk⟩
      simp [Builtin.append_, run_underlying ht, sizeOf, typeInfo, hi, Builtin.lenOf, Builtin.firstCells]
    · have hcells : ∀ j u, (nums .u64 ys)[j]? = some u → W.cell? (ad.add j) = some u := by
        intro j u hu
        have hj : j < ys.length := by
          rcases Nat.lt_or_ge j ys.length with h | h
          · exact h
          · simp [nums, List.getElem?_eq_none h] at hu
        obtain ⟨ad', h', hc⟩ := HR.2.2 (by omega)
        injection h' with h'
        subst h'
        have := hc j (by omega)
        simp [nums, List.getElem?_eq_getElem hj] at hu
        subst hu
        rw [this]
        simp [List.getD_eq_getElem?_getD, List.getElem?_eq_getElem hj]
      obtain ⟨v1, w1, hr, h2, h3, _, h5⟩ := run_append_own_at (P := Try.prog) W base 33 o.type 29 i0 (.int .u64 0) 1 8 ht hi hz0 hz1 hz2 rfl (by omega) (.slice none 0 0) 0 [] (World.ownsRow_nil _ _ _ _) ad m c (nums .u64 ys) (by simp [nums, hm]) hcells
        (by intro u hu; simp only [nums, List.mem_map] at hu; obtain ⟨q, _, rfl⟩ := hu; rfl) (by simp only [maxLen]; omega) (by omega) hbase
      refine ⟨v1, w1, hr, by simpa [nums, hm] using h2, h3, fun k hk => ?_⟩
      rcases h5 with h5 | h5
      · rw [h5] at hk; simp [Value.ownBlock] at hk
      · rw [h5] at hk; injection hk with hk; omega
  obtain ⟨v1, w1, hr, hown, hg, hat⟩ := hrun
  rw [if_pos hw]
  unfold Oper.wp execOp
  simp only [ho, resolve, invoke, builtin, Sem.run_bind, Sem.run_pure, Result.andThen_ok, List.map_toArray, List.map_cons, List.map_nil, hs, hx, hr]
  have hbe : Below W.heap.size W w1 := (Below.refl W.heap.size W).grown hg (Nat.le_refl _) (fun k e => by cases e)
  exact h v1 w1 (Row.of_own hown) (HB.grown hg hbase (fun k e => by cases e)) hbe hat
/-- A frame with slots taken off. -/
def gtrim (f : GF) (v : Value) (k : Nat) : GF := ⟨f.back, v, f.y.drop k⟩
/-- The frames when the last one's slots are another row. -/
theorem gtrim_done {w w1 : World} {B s g c : Nat} {fs : List GF} {f : GF} {L : Nat} (hL : L = (fs ++ [f]).length) (h : GS B w s (.slice (some ⟨g, 0, none⟩) L c) (fs ++ [f])) (k : Nat) (v1 : Value) (hb : Below w.heap.size w w1) (hr : Row w1 w.heap.size 29 1 v1 (f.y.drop k).length (nums .u64 (f.y.drop k))) :
    GS B (w1.setCell ⟨g, fs.length * 2 + 1, none⟩ v1) s (.slice (some ⟨g, 0, none⟩) L c) (fs ++ [gtrim f v1 k]) ∧ Mods (fun i => some i = (Value.slice (some ⟨g, 0, none⟩) L c).ownBlock) w (w1.setCell ⟨g, fs.length * 2 + 1, none⟩ v1) := by
  subst hL
  obtain ⟨q1, q2, q3, q4, q5, q6, q7⟩ := h
  have km : Mods (fun i => some i = (Value.slice (some ⟨g, 0, none⟩) (fs ++ [f]).length c).ownBlock) w (w1.setCell ⟨g, fs.length * 2 + 1, none⟩ v1) :=
    (Mods.of_below (fun i => some i = (Value.slice (some ⟨g, 0, none⟩) (fs ++ [f]).length c).ownBlock) hb).setCell (p := ⟨g, fs.length * 2 + 1, none⟩) (.inl rfl) _
  have k1 : Mods (fun i => i = g) w1 (w1.setCell ⟨g, fs.length * 2 + 1, none⟩ v1) := (Mods.refl (fun i => i = g) w1).setCell (p := ⟨g, fs.length * 2 + 1, none⟩) (.inl rfl) _
  have hfl : (gflat (fs ++ [f])).set (fs.length * 2 + 1) v1 = gflat (fs ++ [gtrim f v1 k]) := by
    rw [gflat_append, gflat_append, List.set_append_right _ _ (by rw [gflat_length]; omega), gflat_length, show fs.length * 2 + 1 - fs.length * 2 = 1 by omega]
    simp [gflat, GF.cells, gtrim]
  have hgw : g < w.heap.size := (q3.base_ g rfl).2
  have q31 := q3.mods (Mods.of_below (fun _ => False) hb) (fun _ _ => id)
  have old : ∀ f', f' ∈ fs ++ [f] → GOk B (w1.setCell ⟨g, fs.length * 2 + 1, none⟩ v1) f' := fun f' hf' => by
    have h4 := q4 f' hf'
    refine (h4.mods (Mods.of_below (fun _ => False) hb) (fun _ _ => id)).mods k1 (fun i hi e => ?_)
    obtain ⟨g', cap, cur, hv', hcur⟩ : ∃ g' cap cur, f'.v = .slice (some ⟨g', 0, none⟩) f'.y.length cap ∧ w.heap[g']? = some (.cells cur 29 (0, 0)) := by
      rcases h4.1.2 with ⟨hn, _⟩ | ⟨g', cap, cur, hv', _, hcur, _⟩
      · rw [hn] at hi; simp [Value.ownBlock] at hi
      · exact ⟨g', cap, cur, hv', hcur⟩
    have : g' = i := by rw [hv'] at hi; simpa [Value.ownBlock] using hi
    subst this
    exact q3.ne_type hcur (by decide) (by rw [e]; rfl)
  refine ⟨⟨km.blk q1 (fun e => q3.ne_type q1 (by decide) e), q2, ?_, fun f' hf' => ?_, ?_, by simpa using q6, Nat.le_trans q7 km.size⟩, km⟩
  · have := q31.set_ rfl (fs.length * 2 + 1) v1
    rw [hfl] at this
    rw [show (fs ++ [gtrim f v1 k]).length = (fs ++ [f]).length by simp]
    exact this
  · rcases List.mem_append.1 hf' with hf' | hf'
    · exact old f' (by simp [hf'])
    · rw [List.mem_singleton] at hf'
      subst hf'
      obtain ⟨p1, p2, p3⟩ := q4 f (by simp)
      refine ⟨?_, fun x hx => p2 x (List.mem_of_mem_drop hx), by show (f.y.drop k).length ≤ 12; rw [List.length_drop]; omega⟩
      have h2 : Row w1 B 29 1 v1 (f.y.drop k).length (nums .u64 (f.y.drop k)) := ⟨hr.1, by
        rcases hr.2 with hn | ⟨g', cap, cur, e1, e2, rest⟩
        · exact .inl hn
        · exact .inr ⟨g', cap, cur, e1, Nat.le_trans q7 e2, rest⟩⟩
      exact h2.mods k1 (fun i hi e => by have := (hr.base_ i hi).1; omega)
  · rw [gbs_append, List.nodup_append] at q5 ⊢
    refine ⟨q5.1, ?_, fun a ha b hb' => ?_⟩
    · show (gbs [gtrim f v1 k]).Nodup
      unfold gbs
      rw [List.filterMap_cons]
      split <;> simp
    · obtain ⟨f1, hf1, he⟩ := mem_gbs.1 ha
      have h1 := ((q4 f1 (by simp [hf1])).1.base_ a he).2
      obtain ⟨f2, hf2, he2⟩ := mem_gbs.1 hb'
      rw [List.mem_singleton] at hf2
      subst hf2
      have h2 := (hr.base_ b he2).1
      omega
def trimL (L : List (Int × List Int)) (n : Int) : List (Int × List Int) := match L.getLast? with | none => L | some f => L.dropLast ++ [(f.1, f.2.drop (trimN n f.2.length))]
theorem trimL_last (L : List (Int × List Int)) (f : Int × List Int) (n : Int) : trimL (L ++ [f]) n = L ++ [(f.1, f.2.drop (trimN n f.2.length))] := by simp [trimL]
theorem trimL_none (fs : List GF) (n : Int) (h : n ≤ 0) : trimL (gab fs) n = gab fs := by
  rcases nil_or_last fs with rfl | ⟨gs, f, rfl⟩
  · rfl
  · rw [gab_last, trimL_last, show trimN n f.y.length = 0 by unfold trimN; rw [if_pos h]]
    simp
theorem reads_cut {w : World} {g n : Nat} {xs : List Int} (h : ReadsInt w .u64 (some ⟨g, 0, none⟩) n xs) (k : Nat) (hk : k ≤ n) : ReadsInt w .u64 (some ⟨g, k, none⟩) (n - k) (xs.drop k) := by
  refine ⟨by rw [List.length_drop, h.1], by have := h.2.1; omega, fun hp => ⟨_, rfl, fun j hj => ?_⟩⟩
  obtain ⟨ad, he, hc⟩ := h.2.2 (by omega)
  injection he with he
  subst he
  have := hc (k + j) (by omega)
  rw [add_plain] at this
  have e2 : (⟨g, k, none⟩ : Addr).add j = ⟨g, k + j, none⟩ := by
    cases j with
    | zero => rfl
    | succ j => rfl
  rw [e2, this]
  simp [List.getD_eq_getElem?_getD]
set_option maxHeartbeats 8000000 in
set_option maxRecDepth 100000 in
theorem trim_calls (w : World) (B s : Nat) (v : Value) (fs : List GF) (n : Int) (h : GS B w s v fs) :
    Calls Try.prog 57 #[.pointer (some ⟨s, 0, none⟩), .int .i64 n] w fun e w' => e = .returned (.tuple #[]) ∧ ∃ fs', GS B w' s v fs' ∧ gab fs' = trimL (gab fs) n ∧ (∀ i, i ∈ gbs fs' → i ∈ gbs fs ∨ w.heap.size ≤ i) ∧ Mods (fun i => some i = v.ownBlock) w w' := by
  have H := Aside0.mk h
  rcases nil_or_last fs with rfl | ⟨fs, f, rfl⟩
  · have c0 := h.c0
    obtain ⟨A, c, rfl, _⟩ := h.2.2.1.form
    clear h
    go_enter Try.func57, Try.ntmps57
    go_wp2
    go_end0
    exact ⟨rfl, [], H.out, rfl, fun i hi => .inl hi, Mods.refl _ _⟩
  · have c0 := h.c0
    have hl := h.2.2.2.2.2.1
    obtain ⟨g, c, rfl, hc, c1, c2, c3, hgs⟩ := h.at_ fs.length (by simp)
    rw [at_last] at c2
    obtain ⟨Ay, cy, hvy, hcy, hry⟩ := GOk.reads (h.2.2.2.1 f (by simp))
    have hy12 := (h.2.2.2.1 f (by simp)).2.2
    rw [hvy] at c2
    rw [List.length_append, List.length_singleton] at c0 hl hc H
    by_cases hn : n ≤ 0
    · have b1 : ¬ 0 < n := by omega
      have b0 : (0 : Int) < (fs.length : Int) + 1 := by omega
      have HTL := Aside0.mk (trimL_none (fs ++ [f]) n hn)
      clear h c1 c2 c3 hry hvy
      go_enter Try.func57, Try.ntmps57
      go_wp2
      go_end0
      exact ⟨rfl, fs ++ [f], H.out, HTL.out.symm, fun i hi => .inl hi, Mods.refl _ _⟩
    · have b1 : 0 < n := by omega
      have b0 : (0 : Int) < (fs.length : Int) + 1 := by omega
      have htr := trimN_le n f.y.length
      have HC0 := Aside0.mk c0
      have HC1 := Aside0.mk c2
      have HF1 : Aside0 (∀ W, Below w.heap.size w W → W.frozen? ⟨g, fs.length * 2 + 1, none⟩ = false) := ⟨fun W hW => (hW.frozen (p := ⟨g, fs.length * 2 + 1, none⟩) (h.2.2.1.base_ g rfl).2).trans c3⟩
      obtain ⟨k, hk⟩ : ∃ k, trimN n f.y.length = k := ⟨_, rfl⟩
      rw [hk] at htr
      obtain ⟨yl, hyl⟩ : ∃ yl, f.y.length = yl := ⟨_, rfl⟩
      have hkj : (if (yl : Int) < n then (yl : Int) else n) = (k : Int) := by rw [← hyl, ← hk]; unfold trimN; (repeat' split) <;> omega
      have HKJ := Aside0.mk hkj
      have HPOST : Aside0 (∀ (v1 : Value) (w1 : World), GS B (w1.setCell ⟨g, fs.length * 2 + 1, none⟩ v1) s (.slice (some ⟨g, 0, none⟩) (fs.length + 1) c) (fs ++ [gtrim f v1 k]) → Mods (fun i => some i = (Value.slice (some ⟨g, 0, none⟩) (fs.length + 1) c).ownBlock) w (w1.setCell ⟨g, fs.length * 2 + 1, none⟩ v1) → (∀ i, v1.ownBlock = some i → w.heap.size ≤ i) → GS B (w1.setCell ⟨g, fs.length * 2 + 1, none⟩ v1) s (.slice (some ⟨g, 0, none⟩) (fs.length + 1) c) (fs ++ [gtrim f v1 k]) ∧ gab (fs ++ [gtrim f v1 k]) = trimL (gab (fs ++ [f])) n ∧ (∀ i, i ∈ gbs (fs ++ [gtrim f v1 k]) → i ∈ gbs (fs ++ [f]) ∨ w.heap.size ≤ i) ∧ Mods (fun i => some i = (Value.slice (some ⟨g, 0, none⟩) (fs.length + 1) c).ownBlock) w (w1.setCell ⟨g, fs.length * 2 + 1, none⟩ v1)) := ⟨fun v1 w1 a b d => ⟨a, by rw [gab_last, gab_last, trimL_last, hk]; rfl, fun i hi => by
        rw [gbs_append, List.mem_append] at hi
        rcases hi with hi | hi
        · exact .inl (by rw [gbs_append, List.mem_append]; exact .inl hi)
        · obtain ⟨f', hf', he⟩ := mem_gbs.1 hi
          rw [List.mem_singleton] at hf'
          subst hf'
          exact .inr (d i he), b⟩⟩
      rw [hyl] at htr c2 hry hy12 hcy HC1
      have HY12 := Aside0.mk hy12
      have HRY := Aside0.mk hry
      have HCN : Aside0 (Ay = none → cy = 0) := ⟨fun e => by
        rcases (h.2.2.2.1 f (by simp)).1.2 with ⟨hn2, _⟩ | ⟨g', cap, cur, hv', _⟩
        · rw [hvy] at hn2; injection hn2
        · rw [hvy, e] at hv'; injection hv' with q; cases q⟩
      have HADR : Aside0 (∀ ad, Ay = some ad → ∃ g2, ad = ⟨g2, 0, none⟩) := ⟨fun ad e => by
        rcases (h.2.2.2.1 f (by simp)).1.2 with ⟨hn2, _⟩ | ⟨g', cap, cur, hv', _⟩
        · rw [hvy, e] at hn2; injection hn2 with q; cases q
        · rw [hvy, e] at hv'; injection hv' with q; injection q with q; exact ⟨g', q⟩⟩
      have e1 : (k : Int) ≤ (yl : Int) := by omega
      have e2 : (yl : Int) ≤ (cy : Int) := by omega
      have e3 : (k : Int) ≤ (cy : Int) := by omega
      clear h c1 c3 hry hk hyl hkj hvy
      rcases Ay with _ | ad
      · have hy0 : yl = 0 := by
          rcases Nat.eq_zero_or_pos yl with h0 | h0
          · exact h0
          · obtain ⟨ad, h, _⟩ := HRY.out.2.2 h0
            cases h
        subst hy0
        obtain rfl : k = 0 := by omega
        obtain rfl : cy = 0 := by have := HCN.out rfl; omega
        have HRD : Aside0 (∀ W, Below w.heap.size w W → ReadsInt W .u64 none (0 - 0) (f.y.drop 0)) := ⟨fun W hb => by rw [List.drop_zero]; exact Go.Proofs.YthdmacdeefohkaaSLoad.reads_mods HRY.out (Mods.of_below (fun _ => False) hb) (fun _ _ => id)⟩
        go_enter Try.func57, Try.ntmps57
        go_wp2
        -- region 3
        have HBB := Aside0.mk (below_drew (Below.refl w.heap.size w))
        refine start_ (n := 16) (S := fun w' => Below w.heap.size w w') (ds := [15]) #[false, false, false, false, false, false, false, false, false, false, false, false, false, false, false, false] (by kernel_rfl) rfl rfl HBB.out (fun hHeld => ?_); refine with_tabW tab3 bits3 (fun HT_ HW_ => ?_)
        generalize w.drew = wd at HBB hHeld ⊢
        refine pure_ (i := 0) (N := (some 26)) (v := ?_) (a' := ?_) #[true, false, false, false, false, false, false, false, false, false, false, false, false, false, false, false] rfl rfl (any_of HT_.out (by kernel_rfl)) (fun _ _ _ h => h) (Or.inl ⟨by rfl, ?_⟩) ?_ ?_
        rotate_left; (intro w'; go_simp; with_reducible rfl)
        rotate_left; (simp only [Act.put, List.setIfInBounds_toArray, List.set_cons_zero, List.set_cons_succ, i64_w, i32_w]; rfl)
        refine pure_ (i := 1) (N := (some 27)) (v := ?_) (a' := ?_) #[true, true, false, false, false, false, false, false, false, false, false, false, false, false, false, false] rfl rfl (any_of HT_.out (by kernel_rfl)) (fun _ _ _ h => h) (Or.inl ⟨by rfl, ?_⟩) ?_ ?_
        rotate_left; (intro w'; go_simp; with_reducible rfl)
        rotate_left; (simp only [Act.put, List.setIfInBounds_toArray, List.set_cons_zero, List.set_cons_succ, i64_w, i32_w]; rfl)
        refine pure_ (i := 2) (N := (some 28)) (v := ?_) (a' := ?_) #[true, true, true, false, false, false, false, false, false, false, false, false, false, false, false, false] rfl rfl (any_of HT_.out (by kernel_rfl)) (fun _ _ _ h => h) (Or.inl ⟨by rfl, ?_⟩) ?_ ?_
        rotate_left; (intro w'; go_simp; with_reducible rfl)
        rotate_left; (simp only [Act.put, List.setIfInBounds_toArray, List.set_cons_zero, List.set_cons_succ, i64_w, i32_w]; rfl)
        refine take_ (i := 3) (N := (some 29)) (v := ?_) (a' := ?_) #[true, true, true, true, false, false, false, false, false, false, false, false, false, false, false, false] rfl rfl (take_ofW HT_.out HW_.out (by kernel_rfl)) (fun _ _ _ h => h) (Or.inl ⟨by rfl, ?_⟩) hHeld ?_ ?_
        rotate_left; (intro w' hs; have s0 := pw_cell_below hs HC0.out; go_simp; with_reducible rfl)
        rotate_left; (simp only [Act.put, List.setIfInBounds_toArray, List.set_cons_zero, List.set_cons_succ, i64_w, i32_w]; rfl)
        refine pure_ (i := 4) (N := (some 30)) (v := ?_) (a' := ?_) #[true, true, true, true, true, false, false, false, false, false, false, false, false, false, false, false] rfl rfl (any_of HT_.out (by kernel_rfl)) (fun _ _ _ h => h) (Or.inl ⟨by rfl, ?_⟩) ?_ ?_
        rotate_left; (intro w'; go_simp; with_reducible rfl)
        rotate_left; (simp only [Act.put, List.setIfInBounds_toArray, List.set_cons_zero, List.set_cons_succ, i64_w, i32_w]; rfl)
        refine pure_ (i := 5) (N := (some 31)) (v := (.int .i64 (fs.length : Int))) (a' := ?_) #[true, true, true, true, true, true, false, false, false, false, false, false, false, false, false, false] rfl rfl (any_of HT_.out (by kernel_rfl)) (fun _ _ _ h => h) (Or.inl ⟨by rfl, ?_⟩) ?_ ?_
        · (intro w'; go_simp; all_goals (first | done | rfl | (rw [IntKind.wrap_i64]; omega)))
        rotate_left; (simp only [Act.put, List.setIfInBounds_toArray, List.set_cons_zero, List.set_cons_succ, i64_w, i32_w]; rfl)
        refine pure_ (i := 6) (N := (some 32)) (v := ?_) (a' := ?_) #[true, true, true, true, true, true, true, false, false, false, false, false, false, false, false, false] rfl rfl (any_of HT_.out (by kernel_rfl)) (fun _ _ _ h => h) (Or.inl ⟨by rfl, ?_⟩) ?_ ?_
        rotate_left; (intro w'; go_simp; with_reducible rfl)
        rotate_left; (simp only [Act.put, List.setIfInBounds_toArray, List.set_cons_zero, List.set_cons_succ, i64_w, i32_w]; rfl)
        refine pure_ (i := 7) (N := (some 33)) (v := ?_) (a' := ?_) #[true, true, true, true, true, true, true, true, false, false, false, false, false, false, false, false] rfl rfl (any_of HT_.out (by kernel_rfl)) (fun _ _ _ h => h) (Or.inl ⟨by rfl, ?_⟩) ?_ ?_
        rotate_left; (intro w'; go_simp; with_reducible rfl)
        rotate_left; (simp only [Act.put, List.setIfInBounds_toArray, List.set_cons_zero, List.set_cons_succ, i64_w, i32_w]; rfl)
        refine pure_ (i := 8) (N := (some 34)) (v := ?_) (a' := ?_) #[true, true, true, true, true, true, true, true, true, false, false, false, false, false, false, false] rfl rfl (any_of HT_.out (by kernel_rfl)) (fun _ _ _ h => h) (Or.inl ⟨by rfl, ?_⟩) ?_ ?_
        rotate_left; (intro w'; go_simp; with_reducible rfl)
        rotate_left; (simp only [Act.put, List.setIfInBounds_toArray, List.set_cons_zero, List.set_cons_succ, i64_w, i32_w]; rfl)
        refine pure_ (i := 9) (N := (some 35)) (v := ?_) (a' := ?_) #[true, true, true, true, true, true, true, true, true, true, false, false, false, false, false, false] rfl rfl (any_of HT_.out (by kernel_rfl)) (fun _ _ _ h => h) (Or.inl ⟨by rfl, ?_⟩) ?_ ?_
        rotate_left; (intro w'; go_simp; with_reducible rfl)
        rotate_left; (simp only [Act.put, List.setIfInBounds_toArray, List.set_cons_zero, List.set_cons_succ, i64_w, i32_w]; rfl)
        refine pure_ (i := 10) (N := (some 36)) (v := (.int .i64 0)) (a' := ?_) #[true, true, true, true, true, true, true, true, true, true, true, false, false, false, false, false] rfl rfl (any_of HT_.out (by kernel_rfl)) (fun _ _ _ h => h) (Or.inl ⟨by rfl, ?_⟩) ?_ ?_
        · (intro w'; go_simp; all_goals (first | done | rfl | (simp only [HKJ.out]; done) | (rw [HKJ.out]; done) | (intro _; have hq_ := HKJ.out; split at hq_ <;> omega)))
        rotate_left; (simp only [Act.put, List.setIfInBounds_toArray, List.set_cons_zero, List.set_cons_succ, i64_w, i32_w]; rfl)
        refine pure_ (i := 11) (N := (some 37)) (v := (.slice none 0 0)) (a' := ?_) #[true, true, true, true, true, true, true, true, true, true, true, true, false, false, false, false] rfl rfl (any_of HT_.out (by kernel_rfl)) (fun _ _ _ h => h) (Or.inl ⟨by rfl, ?_⟩) ?_ ?_
        · (intro w'; go_simp; all_goals (first | done | rfl | (rw [if_neg (by omega)]; done) | (rw [if_neg (by omega)]; rfl) | (rw [if_pos (by omega)]; rfl) | (rw [if_pos rfl]; rfl) | (intro hq_; exfalso; omega) | simp))
        rotate_left; (simp only [Act.put, List.setIfInBounds_toArray, List.set_cons_zero, List.set_cons_succ, i64_w, i32_w]; rfl)
        refine one_ (i := 12) (N := (some 38)) #[true, true, true, true, true, true, true, true, true, true, true, true, true, false, false, false] rfl rfl (one_of HT_.out (by kernel_rfl)) (by decide) (fun K hK => ?_)
        refine append_nil_step (w0 := w) w.heap.size (by rfl) (.const (.slice none 0 0)) (.tmp 37) rfl (f.y.drop 0) _ _ _ rfl rfl (HRD.out _ HBB.out) HBB.out HBB.out.size (by have := HY12.out; omega) ?_
        intro v1 w1 hrow1 hb1 hb2 hat1
        have HROW1 := Aside0.mk hrow1
        have HB1 := Aside0.mk hb1
        have s1 := pw_cell_below hb1 HC1.out
        have s1f := HF1.out w1 hb1
        clear hrow1 hb1 hb2 hat1 hHeld HBB
        refine hK.out _ _ HB1.out (fun hHeld => ?_)
        clear hK K
        refine norm_ (a' := ?_) ?_ ?_
        rotate_left
        · show Act.put _ (some 38) _ = _
          simp only [Act.put, List.setIfInBounds_toArray, List.set_cons_zero, List.set_cons_succ, i64_w, i32_w]
          rfl
        refine pure_ (i := 13) (N := (some 39)) (v := (.pointer (some ⟨g, fs.length * 2, none⟩))) (a' := ?_) #[true, true, true, true, true, true, true, true, true, true, true, true, true, true, false, false] rfl rfl (any_of HT_.out (by kernel_rfl)) (fun _ _ _ h => h) (Or.inl ⟨by rfl, ?_⟩) ?_ ?_
        · (intro w'; go_simp; all_goals (first | done | rfl | (intro hq_; exfalso; omega) | (rw [if_pos (by omega)]; done) | (rw [if_pos (by omega)]; rfl)))
        rotate_left; (simp only [Act.put, List.setIfInBounds_toArray, List.set_cons_zero, List.set_cons_succ, i64_w, i32_w]; rfl)
        refine pure_ (i := 14) (N := (some 40)) (v := ?_) (a' := ?_) #[true, true, true, true, true, true, true, true, true, true, true, true, true, true, true, false] rfl rfl (any_of HT_.out (by kernel_rfl)) (fun _ _ _ h => h) (Or.inl ⟨by rfl, ?_⟩) ?_ ?_
        rotate_left; (intro w'; go_simp; with_reducible rfl)
        rotate_left; (simp only [Act.put, List.setIfInBounds_toArray, List.set_cons_zero, List.set_cons_succ, i64_w, i32_w]; rfl)
        refine last_ (i := 15) (N := none) #[true, true, true, true, true, true, true, true, true, true, true, true, true, true, true, true] rfl rfl (one_of HT_.out (by kernel_rfl)) (by decide) (fun K hK => ?_)
        refine skip_ (w1 := w1.setCell ⟨g, fs.length * 2 + 1, none⟩ v1) (by rfl) rfl ?_ ?_
        · obtain ⟨A1_, c1_, hv1_, _⟩ := HROW1.out.form
          subst hv1_
          go_simp
        refine hK.out _ _ ?_
        clear hK K
        refine done_ (done_of HT_.out (by kernel_rfl)) ?_
        -- region 3 done
        go_wp2
        go_end0
        have hd := gtrim_done (by simp) H.out 0 v1 HB1.out HROW1.out
        try rw [show (fs ++ [f]).length = fs.length + 1 by simp]
        exact ⟨rfl, fs ++ [gtrim f v1 0], HPOST.out v1 w1 hd.1 hd.2 (fun i hi => (HROW1.out.base_ i hi).1)⟩
      · obtain ⟨g2, hg2⟩ : ∃ g2, ad = ⟨g2, 0, none⟩ := HADR.out ad rfl
        subst hg2
        by_cases hkc : k < cy
        · have e4 : (k : Int) < (cy : Int) := by omega
          have HRD : Aside0 (∀ W, Below w.heap.size w W → ReadsInt W .u64 (some ⟨g2, k, none⟩) (yl - k) (f.y.drop k)) := ⟨fun W hb => reads_cut (Go.Proofs.YthdmacdeefohkaaSLoad.reads_mods HRY.out (Mods.of_below (fun _ => False) hb) (fun _ _ => id)) k (by omega)⟩
          go_enter Try.func57, Try.ntmps57
          go_wp2
          -- region 3
          have HBB := Aside0.mk (below_drew (Below.refl w.heap.size w))
          refine start_ (n := 16) (S := fun w' => Below w.heap.size w w') (ds := [15]) #[false, false, false, false, false, false, false, false, false, false, false, false, false, false, false, false] (by kernel_rfl) rfl rfl HBB.out (fun hHeld => ?_); refine with_tabW tab3 bits3 (fun HT_ HW_ => ?_)
          generalize w.drew = wd at HBB hHeld ⊢
          refine pure_ (i := 0) (N := (some 26)) (v := ?_) (a' := ?_) #[true, false, false, false, false, false, false, false, false, false, false, false, false, false, false, false] rfl rfl (any_of HT_.out (by kernel_rfl)) (fun _ _ _ h => h) (Or.inl ⟨by rfl, ?_⟩) ?_ ?_
          rotate_left; (intro w'; go_simp; with_reducible rfl)
          rotate_left; (simp only [Act.put, List.setIfInBounds_toArray, List.set_cons_zero, List.set_cons_succ, i64_w, i32_w]; rfl)
          refine pure_ (i := 1) (N := (some 27)) (v := ?_) (a' := ?_) #[true, true, false, false, false, false, false, false, false, false, false, false, false, false, false, false] rfl rfl (any_of HT_.out (by kernel_rfl)) (fun _ _ _ h => h) (Or.inl ⟨by rfl, ?_⟩) ?_ ?_
          rotate_left; (intro w'; go_simp; with_reducible rfl)
          rotate_left; (simp only [Act.put, List.setIfInBounds_toArray, List.set_cons_zero, List.set_cons_succ, i64_w, i32_w]; rfl)
          refine pure_ (i := 2) (N := (some 28)) (v := ?_) (a' := ?_) #[true, true, true, false, false, false, false, false, false, false, false, false, false, false, false, false] rfl rfl (any_of HT_.out (by kernel_rfl)) (fun _ _ _ h => h) (Or.inl ⟨by rfl, ?_⟩) ?_ ?_
          rotate_left; (intro w'; go_simp; with_reducible rfl)
          rotate_left; (simp only [Act.put, List.setIfInBounds_toArray, List.set_cons_zero, List.set_cons_succ, i64_w, i32_w]; rfl)
          refine take_ (i := 3) (N := (some 29)) (v := ?_) (a' := ?_) #[true, true, true, true, false, false, false, false, false, false, false, false, false, false, false, false] rfl rfl (take_ofW HT_.out HW_.out (by kernel_rfl)) (fun _ _ _ h => h) (Or.inl ⟨by rfl, ?_⟩) hHeld ?_ ?_
          rotate_left; (intro w' hs; have s0 := pw_cell_below hs HC0.out; go_simp; with_reducible rfl)
          rotate_left; (simp only [Act.put, List.setIfInBounds_toArray, List.set_cons_zero, List.set_cons_succ, i64_w, i32_w]; rfl)
          refine pure_ (i := 4) (N := (some 30)) (v := ?_) (a' := ?_) #[true, true, true, true, true, false, false, false, false, false, false, false, false, false, false, false] rfl rfl (any_of HT_.out (by kernel_rfl)) (fun _ _ _ h => h) (Or.inl ⟨by rfl, ?_⟩) ?_ ?_
          rotate_left; (intro w'; go_simp; with_reducible rfl)
          rotate_left; (simp only [Act.put, List.setIfInBounds_toArray, List.set_cons_zero, List.set_cons_succ, i64_w, i32_w]; rfl)
          refine pure_ (i := 5) (N := (some 31)) (v := (.int .i64 (fs.length : Int))) (a' := ?_) #[true, true, true, true, true, true, false, false, false, false, false, false, false, false, false, false] rfl rfl (any_of HT_.out (by kernel_rfl)) (fun _ _ _ h => h) (Or.inl ⟨by rfl, ?_⟩) ?_ ?_
          · (intro w'; go_simp; all_goals (first | done | rfl | (rw [IntKind.wrap_i64]; omega)))
          rotate_left; (simp only [Act.put, List.setIfInBounds_toArray, List.set_cons_zero, List.set_cons_succ, i64_w, i32_w]; rfl)
          refine pure_ (i := 6) (N := (some 32)) (v := ?_) (a' := ?_) #[true, true, true, true, true, true, true, false, false, false, false, false, false, false, false, false] rfl rfl (any_of HT_.out (by kernel_rfl)) (fun _ _ _ h => h) (Or.inl ⟨by rfl, ?_⟩) ?_ ?_
          rotate_left; (intro w'; go_simp; with_reducible rfl)
          rotate_left; (simp only [Act.put, List.setIfInBounds_toArray, List.set_cons_zero, List.set_cons_succ, i64_w, i32_w]; rfl)
          refine pure_ (i := 7) (N := (some 33)) (v := ?_) (a' := ?_) #[true, true, true, true, true, true, true, true, false, false, false, false, false, false, false, false] rfl rfl (any_of HT_.out (by kernel_rfl)) (fun _ _ _ h => h) (Or.inl ⟨by rfl, ?_⟩) ?_ ?_
          rotate_left; (intro w'; go_simp; with_reducible rfl)
          rotate_left; (simp only [Act.put, List.setIfInBounds_toArray, List.set_cons_zero, List.set_cons_succ, i64_w, i32_w]; rfl)
          refine pure_ (i := 8) (N := (some 34)) (v := ?_) (a' := ?_) #[true, true, true, true, true, true, true, true, true, false, false, false, false, false, false, false] rfl rfl (any_of HT_.out (by kernel_rfl)) (fun _ _ _ h => h) (Or.inl ⟨by rfl, ?_⟩) ?_ ?_
          rotate_left; (intro w'; go_simp; with_reducible rfl)
          rotate_left; (simp only [Act.put, List.setIfInBounds_toArray, List.set_cons_zero, List.set_cons_succ, i64_w, i32_w]; rfl)
          refine pure_ (i := 9) (N := (some 35)) (v := ?_) (a' := ?_) #[true, true, true, true, true, true, true, true, true, true, false, false, false, false, false, false] rfl rfl (any_of HT_.out (by kernel_rfl)) (fun _ _ _ h => h) (Or.inl ⟨by rfl, ?_⟩) ?_ ?_
          rotate_left; (intro w'; go_simp; with_reducible rfl)
          rotate_left; (simp only [Act.put, List.setIfInBounds_toArray, List.set_cons_zero, List.set_cons_succ, i64_w, i32_w]; rfl)
          refine pure_ (i := 10) (N := (some 36)) (v := (.int .i64 (k : Int))) (a' := ?_) #[true, true, true, true, true, true, true, true, true, true, true, false, false, false, false, false] rfl rfl (any_of HT_.out (by kernel_rfl)) (fun _ _ _ h => h) (Or.inl ⟨by rfl, ?_⟩) ?_ ?_
          · (intro w'; go_simp; all_goals (first | done | rfl | (simp only [HKJ.out]; done) | (rw [HKJ.out]; done) | (intro _; have hq_ := HKJ.out; split at hq_ <;> omega)))
          rotate_left; (simp only [Act.put, List.setIfInBounds_toArray, List.set_cons_zero, List.set_cons_succ, i64_w, i32_w]; rfl)
          refine pure_ (i := 11) (N := (some 37)) (v := (.slice (some ⟨g2, k, none⟩) (yl - k) (cy - k))) (a' := ?_) #[true, true, true, true, true, true, true, true, true, true, true, true, false, false, false, false] rfl rfl (any_of HT_.out (by kernel_rfl)) (fun _ _ _ h => h) (Or.inl ⟨by rfl, ?_⟩) ?_ ?_
          · (intro w'; go_simp; all_goals (first | done | rfl | (rw [if_neg (by omega)]; done) | (rw [if_neg (by omega)]; rfl) | (rw [if_pos (by omega)]; rfl) | (rw [if_pos rfl]; rfl) | (intro hq_; exfalso; omega) | simp))
          rotate_left; (simp only [Act.put, List.setIfInBounds_toArray, List.set_cons_zero, List.set_cons_succ, i64_w, i32_w]; rfl)
          refine one_ (i := 12) (N := (some 38)) #[true, true, true, true, true, true, true, true, true, true, true, true, true, false, false, false] rfl rfl (one_of HT_.out (by kernel_rfl)) (by decide) (fun K hK => ?_)
          refine append_nil_step (w0 := w) w.heap.size (by rfl) (.const (.slice none 0 0)) (.tmp 37) rfl (f.y.drop k) _ _ _ rfl rfl (HRD.out _ HBB.out) HBB.out HBB.out.size (by have := HY12.out; omega) ?_
          intro v1 w1 hrow1 hb1 hb2 hat1
          have HROW1 := Aside0.mk hrow1
          have HB1 := Aside0.mk hb1
          have s1 := pw_cell_below hb1 HC1.out
          have s1f := HF1.out w1 hb1
          clear hrow1 hb1 hb2 hat1 hHeld HBB
          refine hK.out _ _ HB1.out (fun hHeld => ?_)
          clear hK K
          refine norm_ (a' := ?_) ?_ ?_
          rotate_left
          · show Act.put _ (some 38) _ = _
            simp only [Act.put, List.setIfInBounds_toArray, List.set_cons_zero, List.set_cons_succ, i64_w, i32_w]
            rfl
          refine pure_ (i := 13) (N := (some 39)) (v := (.pointer (some ⟨g, fs.length * 2, none⟩))) (a' := ?_) #[true, true, true, true, true, true, true, true, true, true, true, true, true, true, false, false] rfl rfl (any_of HT_.out (by kernel_rfl)) (fun _ _ _ h => h) (Or.inl ⟨by rfl, ?_⟩) ?_ ?_
          · (intro w'; go_simp; all_goals (first | done | rfl | (intro hq_; exfalso; omega) | (rw [if_pos (by omega)]; done) | (rw [if_pos (by omega)]; rfl)))
          rotate_left; (simp only [Act.put, List.setIfInBounds_toArray, List.set_cons_zero, List.set_cons_succ, i64_w, i32_w]; rfl)
          refine pure_ (i := 14) (N := (some 40)) (v := ?_) (a' := ?_) #[true, true, true, true, true, true, true, true, true, true, true, true, true, true, true, false] rfl rfl (any_of HT_.out (by kernel_rfl)) (fun _ _ _ h => h) (Or.inl ⟨by rfl, ?_⟩) ?_ ?_
          rotate_left; (intro w'; go_simp; with_reducible rfl)
          rotate_left; (simp only [Act.put, List.setIfInBounds_toArray, List.set_cons_zero, List.set_cons_succ, i64_w, i32_w]; rfl)
          refine last_ (i := 15) (N := none) #[true, true, true, true, true, true, true, true, true, true, true, true, true, true, true, true] rfl rfl (one_of HT_.out (by kernel_rfl)) (by decide) (fun K hK => ?_)
          refine skip_ (w1 := w1.setCell ⟨g, fs.length * 2 + 1, none⟩ v1) (by rfl) rfl ?_ ?_
          · obtain ⟨A1_, c1_, hv1_, _⟩ := HROW1.out.form
            subst hv1_
            go_simp
          refine hK.out _ _ ?_
          clear hK K
          refine done_ (done_of HT_.out (by kernel_rfl)) ?_
          -- region 3 done
          go_wp2
          go_end0
          have hd := gtrim_done (by simp) H.out k v1 HB1.out HROW1.out
          try rw [show (fs ++ [f]).length = fs.length + 1 by simp]
          exact ⟨rfl, fs ++ [gtrim f v1 k], HPOST.out v1 w1 hd.1 hd.2 (fun i hi => (HROW1.out.base_ i hi).1)⟩
        · obtain rfl : cy = k := by omega
          obtain rfl : yl = cy := by omega
          have HRD : Aside0 (∀ W, Below w.heap.size w W → ReadsInt W .u64 (some ⟨g2, 0, none⟩) 0 (f.y.drop yl)) := ⟨fun W hb => by
            have e : f.y.drop yl = [] := List.eq_nil_of_length_eq_zero (by rw [List.length_drop, HRY.out.1, Nat.sub_self])
            rw [e]
            exact ⟨rfl, by omega, fun hp => absurd hp (by omega)⟩⟩
          go_enter Try.func57, Try.ntmps57
          go_wp2
          -- region 3
          have HBB := Aside0.mk (below_drew (Below.refl w.heap.size w))
          refine start_ (n := 16) (S := fun w' => Below w.heap.size w w') (ds := [15]) #[false, false, false, false, false, false, false, false, false, false, false, false, false, false, false, false] (by kernel_rfl) rfl rfl HBB.out (fun hHeld => ?_); refine with_tabW tab3 bits3 (fun HT_ HW_ => ?_)
          generalize w.drew = wd at HBB hHeld ⊢
          refine pure_ (i := 0) (N := (some 26)) (v := ?_) (a' := ?_) #[true, false, false, false, false, false, false, false, false, false, false, false, false, false, false, false] rfl rfl (any_of HT_.out (by kernel_rfl)) (fun _ _ _ h => h) (Or.inl ⟨by rfl, ?_⟩) ?_ ?_
          rotate_left; (intro w'; go_simp; with_reducible rfl)
          rotate_left; (simp only [Act.put, List.setIfInBounds_toArray, List.set_cons_zero, List.set_cons_succ, i64_w, i32_w]; rfl)
          refine pure_ (i := 1) (N := (some 27)) (v := ?_) (a' := ?_) #[true, true, false, false, false, false, false, false, false, false, false, false, false, false, false, false] rfl rfl (any_of HT_.out (by kernel_rfl)) (fun _ _ _ h => h) (Or.inl ⟨by rfl, ?_⟩) ?_ ?_
          rotate_left; (intro w'; go_simp; with_reducible rfl)
          rotate_left; (simp only [Act.put, List.setIfInBounds_toArray, List.set_cons_zero, List.set_cons_succ, i64_w, i32_w]; rfl)
          refine pure_ (i := 2) (N := (some 28)) (v := ?_) (a' := ?_) #[true, true, true, false, false, false, false, false, false, false, false, false, false, false, false, false] rfl rfl (any_of HT_.out (by kernel_rfl)) (fun _ _ _ h => h) (Or.inl ⟨by rfl, ?_⟩) ?_ ?_
          rotate_left; (intro w'; go_simp; with_reducible rfl)
          rotate_left; (simp only [Act.put, List.setIfInBounds_toArray, List.set_cons_zero, List.set_cons_succ, i64_w, i32_w]; rfl)
          refine take_ (i := 3) (N := (some 29)) (v := ?_) (a' := ?_) #[true, true, true, true, false, false, false, false, false, false, false, false, false, false, false, false] rfl rfl (take_ofW HT_.out HW_.out (by kernel_rfl)) (fun _ _ _ h => h) (Or.inl ⟨by rfl, ?_⟩) hHeld ?_ ?_
          rotate_left; (intro w' hs; have s0 := pw_cell_below hs HC0.out; go_simp; with_reducible rfl)
          rotate_left; (simp only [Act.put, List.setIfInBounds_toArray, List.set_cons_zero, List.set_cons_succ, i64_w, i32_w]; rfl)
          refine pure_ (i := 4) (N := (some 30)) (v := ?_) (a' := ?_) #[true, true, true, true, true, false, false, false, false, false, false, false, false, false, false, false] rfl rfl (any_of HT_.out (by kernel_rfl)) (fun _ _ _ h => h) (Or.inl ⟨by rfl, ?_⟩) ?_ ?_
          rotate_left; (intro w'; go_simp; with_reducible rfl)
          rotate_left; (simp only [Act.put, List.setIfInBounds_toArray, List.set_cons_zero, List.set_cons_succ, i64_w, i32_w]; rfl)
          refine pure_ (i := 5) (N := (some 31)) (v := (.int .i64 (fs.length : Int))) (a' := ?_) #[true, true, true, true, true, true, false, false, false, false, false, false, false, false, false, false] rfl rfl (any_of HT_.out (by kernel_rfl)) (fun _ _ _ h => h) (Or.inl ⟨by rfl, ?_⟩) ?_ ?_
          · (intro w'; go_simp; all_goals (first | done | rfl | (rw [IntKind.wrap_i64]; omega)))
          rotate_left; (simp only [Act.put, List.setIfInBounds_toArray, List.set_cons_zero, List.set_cons_succ, i64_w, i32_w]; rfl)
          refine pure_ (i := 6) (N := (some 32)) (v := ?_) (a' := ?_) #[true, true, true, true, true, true, true, false, false, false, false, false, false, false, false, false] rfl rfl (any_of HT_.out (by kernel_rfl)) (fun _ _ _ h => h) (Or.inl ⟨by rfl, ?_⟩) ?_ ?_
          rotate_left; (intro w'; go_simp; with_reducible rfl)
          rotate_left; (simp only [Act.put, List.setIfInBounds_toArray, List.set_cons_zero, List.set_cons_succ, i64_w, i32_w]; rfl)
          refine pure_ (i := 7) (N := (some 33)) (v := ?_) (a' := ?_) #[true, true, true, true, true, true, true, true, false, false, false, false, false, false, false, false] rfl rfl (any_of HT_.out (by kernel_rfl)) (fun _ _ _ h => h) (Or.inl ⟨by rfl, ?_⟩) ?_ ?_
          rotate_left; (intro w'; go_simp; with_reducible rfl)
          rotate_left; (simp only [Act.put, List.setIfInBounds_toArray, List.set_cons_zero, List.set_cons_succ, i64_w, i32_w]; rfl)
          refine pure_ (i := 8) (N := (some 34)) (v := ?_) (a' := ?_) #[true, true, true, true, true, true, true, true, true, false, false, false, false, false, false, false] rfl rfl (any_of HT_.out (by kernel_rfl)) (fun _ _ _ h => h) (Or.inl ⟨by rfl, ?_⟩) ?_ ?_
          rotate_left; (intro w'; go_simp; with_reducible rfl)
          rotate_left; (simp only [Act.put, List.setIfInBounds_toArray, List.set_cons_zero, List.set_cons_succ, i64_w, i32_w]; rfl)
          refine pure_ (i := 9) (N := (some 35)) (v := ?_) (a' := ?_) #[true, true, true, true, true, true, true, true, true, true, false, false, false, false, false, false] rfl rfl (any_of HT_.out (by kernel_rfl)) (fun _ _ _ h => h) (Or.inl ⟨by rfl, ?_⟩) ?_ ?_
          rotate_left; (intro w'; go_simp; with_reducible rfl)
          rotate_left; (simp only [Act.put, List.setIfInBounds_toArray, List.set_cons_zero, List.set_cons_succ, i64_w, i32_w]; rfl)
          refine pure_ (i := 10) (N := (some 36)) (v := (.int .i64 (yl : Int))) (a' := ?_) #[true, true, true, true, true, true, true, true, true, true, true, false, false, false, false, false] rfl rfl (any_of HT_.out (by kernel_rfl)) (fun _ _ _ h => h) (Or.inl ⟨by rfl, ?_⟩) ?_ ?_
          · (intro w'; go_simp; all_goals (first | done | rfl | (simp only [HKJ.out]; done) | (rw [HKJ.out]; done) | (intro _; have hq_ := HKJ.out; split at hq_ <;> omega)))
          rotate_left; (simp only [Act.put, List.setIfInBounds_toArray, List.set_cons_zero, List.set_cons_succ, i64_w, i32_w]; rfl)
          refine pure_ (i := 11) (N := (some 37)) (v := (.slice (some ⟨g2, 0, none⟩) 0 0)) (a' := ?_) #[true, true, true, true, true, true, true, true, true, true, true, true, false, false, false, false] rfl rfl (any_of HT_.out (by kernel_rfl)) (fun _ _ _ h => h) (Or.inl ⟨by rfl, ?_⟩) ?_ ?_
          · (intro w'; go_simp; all_goals (first | done | rfl | (rw [if_neg (by omega)]; done) | (rw [if_neg (by omega)]; rfl) | (rw [if_pos (by omega)]; rfl) | (rw [if_pos rfl]; rfl) | (intro hq_; exfalso; omega) | simp))
          rotate_left; (simp only [Act.put, List.setIfInBounds_toArray, List.set_cons_zero, List.set_cons_succ, i64_w, i32_w]; rfl)
          refine one_ (i := 12) (N := (some 38)) #[true, true, true, true, true, true, true, true, true, true, true, true, true, false, false, false] rfl rfl (one_of HT_.out (by kernel_rfl)) (by decide) (fun K hK => ?_)
          refine append_nil_step (w0 := w) w.heap.size (by rfl) (.const (.slice none 0 0)) (.tmp 37) rfl (f.y.drop yl) _ _ _ rfl rfl (HRD.out _ HBB.out) HBB.out HBB.out.size (by have := HY12.out; omega) ?_
          intro v1 w1 hrow1 hb1 hb2 hat1
          have HROW1 := Aside0.mk hrow1
          have HB1 := Aside0.mk hb1
          have s1 := pw_cell_below hb1 HC1.out
          have s1f := HF1.out w1 hb1
          clear hrow1 hb1 hb2 hat1 hHeld HBB
          refine hK.out _ _ HB1.out (fun hHeld => ?_)
          clear hK K
          refine norm_ (a' := ?_) ?_ ?_
          rotate_left
          · show Act.put _ (some 38) _ = _
            simp only [Act.put, List.setIfInBounds_toArray, List.set_cons_zero, List.set_cons_succ, i64_w, i32_w]
            rfl
          refine pure_ (i := 13) (N := (some 39)) (v := (.pointer (some ⟨g, fs.length * 2, none⟩))) (a' := ?_) #[true, true, true, true, true, true, true, true, true, true, true, true, true, true, false, false] rfl rfl (any_of HT_.out (by kernel_rfl)) (fun _ _ _ h => h) (Or.inl ⟨by rfl, ?_⟩) ?_ ?_
          · (intro w'; go_simp; all_goals (first | done | rfl | (intro hq_; exfalso; omega) | (rw [if_pos (by omega)]; done) | (rw [if_pos (by omega)]; rfl)))
          rotate_left; (simp only [Act.put, List.setIfInBounds_toArray, List.set_cons_zero, List.set_cons_succ, i64_w, i32_w]; rfl)
          refine pure_ (i := 14) (N := (some 40)) (v := ?_) (a' := ?_) #[true, true, true, true, true, true, true, true, true, true, true, true, true, true, true, false] rfl rfl (any_of HT_.out (by kernel_rfl)) (fun _ _ _ h => h) (Or.inl ⟨by rfl, ?_⟩) ?_ ?_
          rotate_left; (intro w'; go_simp; with_reducible rfl)
          rotate_left; (simp only [Act.put, List.setIfInBounds_toArray, List.set_cons_zero, List.set_cons_succ, i64_w, i32_w]; rfl)
          refine last_ (i := 15) (N := none) #[true, true, true, true, true, true, true, true, true, true, true, true, true, true, true, true] rfl rfl (one_of HT_.out (by kernel_rfl)) (by decide) (fun K hK => ?_)
          refine skip_ (w1 := w1.setCell ⟨g, fs.length * 2 + 1, none⟩ v1) (by rfl) rfl ?_ ?_
          · obtain ⟨A1_, c1_, hv1_, _⟩ := HROW1.out.form
            subst hv1_
            go_simp
          refine hK.out _ _ ?_
          clear hK K
          refine done_ (done_of HT_.out (by kernel_rfl)) ?_
          -- region 3 done
          go_wp2
          go_end0
          have hd := gtrim_done (by simp) H.out yl v1 HB1.out HROW1.out
          try rw [show (fs ++ [f]).length = fs.length + 1 by simp]
          exact ⟨rfl, fs ++ [gtrim f v1 yl], HPOST.out v1 w1 hd.1 hd.2 (fun i hi => (HROW1.out.base_ i hi).1)⟩
end Go.Proofs.YthdmacdeefohkaaGm
