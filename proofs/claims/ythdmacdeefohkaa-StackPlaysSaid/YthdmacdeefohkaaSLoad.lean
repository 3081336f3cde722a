/- The contract of Load of a stack. -/
import Derived.Test.YthdmacdeefohkaaSRoots
import Derived.Laws.CopyOwn
import Derived.Deep.RegionHeld3
namespace Go.Proofs.YthdmacdeefohkaaSLoad
open Go.RowKit Go.Proofs.YthdmacdeefohkaaW.PrintWords Go.Proofs.YthdmacdeefohkaaW.PrintLast Go.Proofs.YthdmacdeefohkaaW.PrintMore Go.Proofs.YthdmacdeefohkaaMem Go.Proofs.YthdmacdeefohkaaRow Go.Proofs.YthdmacdeefohkaaBits Go.Proofs.YthdmacdeefohkaaStk Go.Proofs.YthdmacdeefohkaaSWords Go.Proofs.YthdmacdeefohkaaSRoots Go.Proofs
set_option linter.unusedVariables false
set_option linter.unusedSimpArgs false
/-- Numbers laid into the slots of frames. -/
def loadF : List Fr → List Int → List Fr
  | [], _ => []
  | f :: fs, xs => { f with y := xs.take f.y.length } :: loadF fs (xs.drop f.y.length)
theorem loadF_append (fs gs : List Fr) : ∀ xs : List Int, loadF (fs ++ gs) xs = loadF fs xs ++ loadF gs (xs.drop (ysum fs)) := by
  induction fs with
  | nil => intro xs; simp [loadF, ysum]
  | cons f fs ih =>
    intro xs
    simp only [List.cons_append, loadF, ih, List.drop_drop]
    simp [ysum]
theorem loadF_length (fs : List Fr) : ∀ xs : List Int, (loadF fs xs).length = fs.length := by
  induction fs with
  | nil => intro xs; rfl
  | cons f fs ih => intro xs; simp [loadF, ih]
theorem loadF_b (fs : List Fr) : ∀ xs : List Int, (loadF fs xs).map Fr.b = fs.map Fr.b := by
  induction fs with
  | nil => intro xs; rfl
  | cons f fs ih => intro xs; simp [loadF, ih]
theorem loadF_flat (fs : List Fr) : ∀ xs : List Int, ysum fs ≤ xs.length → flat (loadF fs xs) = flat fs := by
  induction fs with
  | nil => intro xs _; rfl
  | cons f fs ih =>
    intro xs h
    simp only [ysum, List.map_cons, List.sum_cons] at h
    have := ih (xs.drop f.y.length) (by simp [ysum]; omega)
    simp only [flat, loadF, List.flatMap_cons] at this ⊢
    rw [this]
    simp [Fr.cells]
    omega
section
variable {P : Program}
theorem Mods.setRow {w : World} {g : Nat} (cs : Array Value) : Mods (fun i => i = g) w (w.setRow g cs) := ⟨rfl, rfl, rfl, by simp [World.setRow], fun k _ hn => setRow_other w g k cs hn⟩
/-- copy into a row known whole; what else is there stays. -/
theorem wpList_copy_mods {w : World} {ops : Array Oper} {rest : List Oper} {o : Oper} {a : Act} {Q : Exit → Act → World → Prop} (hgd : o.guard = none) (d s : Operand) (dT sT : TypeId)
    (ho : o.op = .call { callee := .builtin .copy, args := #[d, s], argTypes := #[dT, sT] }) (elem : TypeId) (hu : P.underlying dT = some (.slice elem)) (hsz : (P.info? elem).map (·.size) = some 1)
    (dp sp : Option Addr) (dLen dCap sLen sCap : Nat) (hd : a.eval d = .slice dp dLen dCap) (hs : a.eval s = .slice sp sLen sCap)
    (g off : Nat) (cur : List Value) (t : TypeId) (hg : w.heap[g]? = some (.cells cur.toArray t (0, 0))) (cs : List Value) (n : Nat) (hln : cs.length = n) (hn : n = Nat.min sLen dLen)
    (hpos : 0 < cs.length → dp = some ⟨g, off, none⟩ ∧ ∃ ad, sp = some ad ∧ ∀ j v, cs[j]? = some v → w.cell? (ad.add j) = some v)
    (hfit : off + cs.length ≤ cur.length) (h1 : ∀ v ∈ cs, v.oneCell' = true)
    (h : ∀ w', Aside0 (w'.heap[g]? = some (.cells (splice cur off cs).toArray t (0, 0))) → Aside0 (Mods (fun i => i = g) w w') → wpList P ops Q rest (a.put o.dst (.int .i64 (n : Int))) w') :
    wpList P ops Q (o :: rest) a w := by
  subst hln
  by_cases h0 : cs.length = 0
  · obtain rfl : cs = [] := List.eq_nil_of_length_eq_zero h0
    refine wpList_copy_nothing hgd d s dT sT ho elem hu hsz dp sp dLen dCap sLen sCap hd hs (by simpa using hn.symm) ?_
    exact h w ⟨by simpa [splice] using hg⟩ ⟨Mods.refl _ _⟩
  · obtain ⟨rfl, ad, rfl, hsrc⟩ := hpos (by omega)
    refine wpList_copy_own hgd d s dT sT ho elem hu hsz g off dLen dCap ad sLen sCap hd hs cur.toArray t hg cs hn hsrc (by simpa using hfit) h1 ?_
    exact h _ ⟨by simpa [splice] using setRow_heap w g _ _ t _ hg⟩ ⟨Mods.setRow _⟩
end
theorem mods_cell {S : Nat → Prop} {w w' : World} {p : Addr} {u : Value} (k : Mods S w w') (hn : ¬ S p.block) (h : w.cell? p = some u) : w'.cell? p = some u :=
  (World.cell?_of_block (w := w) (k.block p.block (World.block_lt_of_cell? w _ h) hn)).trans h
theorem reads_mods {S : Nat → Prop} {w w' : World} {k : IntKind} {A : Option Addr} {n : Nat} {xs : List Int} (h : ReadsInt w k A n xs) (hm : Mods S w w') (hn : ∀ ad, A = some ad → ¬ S ad.block) : ReadsInt w' k A n xs := by
  obtain ⟨h1, h2, h3⟩ := h
  refine ⟨h1, h2, fun h0 => ?_⟩
  obtain ⟨ad, rfl, hc⟩ := h3 h0
  refine ⟨ad, rfl, fun j hj => mods_cell hm ?_ (hc j hj)⟩
  have : (ad.add j).block = ad.block := by unfold Addr.add; split <;> rfl
  rw [this]
  exact hn ad rfl
/-- One frame's slots laid anew. -/
theorem St.load_at {B s : Nat} {w w' : World} {v : Value} {F1 F2 : List Fr} {f : Fr} {cur ys : List Int} (h : St B w s v (F1 ++ f :: F2)) (hcur : w.heap[f.b]? = some (.cells (nums .u64 cur).toArray 29 (0, 0))) (hl : f.o + f.y.length ≤ cur.length)
    (hy : ys.length = f.y.length) (hx : W64 ys) (hg : w'.heap[f.b]? = some (.cells (splice (nums .u64 cur) f.o (nums .u64 ys)).toArray 29 (0, 0))) (hm : Mods (fun i => i = f.b) w w') :
    St B w' s v (F1 ++ { f with y := ys } :: F2) := by
  obtain ⟨q1, q2, q3, q4, q5, q6, q7⟩ := h
  have hs : s ≠ f.b := blk_ne q1 hcur (by decide)
  have hrow := q3.ne_type hcur (by decide)
  have hcs : ({ f with y := ys } : Fr).cells = f.cells := by simp [Fr.cells, hy]
  refine ⟨hm.blk q1 hs, q2, ?_, ?_, by simpa using q5, by simpa using q6, Nat.le_trans q7 hm.size⟩
  · have := q3.mods hm (fun i hi => fun e => hrow (by rw [hi, e]))
    rw [flat_append] at this ⊢
    simpa [flat, hcs] using this
  · intro f' hf'
    rw [List.map_append, List.map_cons, List.nodup_append, List.nodup_cons] at q5
    rcases List.mem_append.1 hf' with hf' | hf'
    · exact (q4 f' (by simp [hf'])).mods hm (fun e => q5.2.2 f'.b (List.mem_map_of_mem hf') f.b (by simp) e)
    · rcases List.mem_cons.1 hf' with rfl | hf'
      · obtain ⟨p1, ⟨_, p2, p3⟩, p4, p5, p6⟩ := q4 f (by simp)
        have hsp : splice (nums .u64 cur) f.o (nums .u64 ys) = nums .u64 (splice cur f.o ys) := by simp [splice, nums]
        refine ⟨p1, ⟨splice cur f.o ys, by rw [← hsp]; exact hg, ?_, ?_⟩, by simpa [hy] using p4, p5, hx⟩
        · rw [length_splice _ _ _ (by omega)]; simp only; omega
        · simp only [splice]
          rw [List.drop_append_of_le_length (by simp; omega), List.drop_eq_nil_of_le (by simp only [List.length_take]; omega)]
          simp
      · exact (q4 f' (by simp [hf'])).mods hm (fun e => q5.2.1.1 (by rw [← e]; exact List.mem_map_of_mem hf'))
/-- The frames when i of them have been laid. -/
def midF (fs : List Fr) (xs : List Int) (i : Nat) : List Fr := loadF (fs.take i) xs ++ fs.drop i
theorem midF_zero (fs : List Fr) (xs : List Int) : midF fs xs 0 = fs := by simp [midF, loadF]
theorem midF_all (fs : List Fr) (xs : List Int) : midF fs xs fs.length = loadF fs xs := by simp [midF]
theorem midF_at (fs : List Fr) (xs : List Int) (i : Nat) (h : i < fs.length) : midF fs xs i = loadF (fs.take i) xs ++ fs[i] :: fs.drop (i + 1) := by
  unfold midF; rw [List.drop_eq_getElem_cons h]
theorem midF_succ (fs : List Fr) (xs : List Int) (i : Nat) (h : i < fs.length) : midF fs xs (i + 1) = loadF (fs.take i) xs ++ { fs[i] with y := (xs.drop (ysum (fs.take i))).take (fs[i]).y.length } :: fs.drop (i + 1) := by
  unfold midF
  rw [List.take_succ_eq_append_getElem h, loadF_append, List.append_assoc]
  rfl
theorem midF_flat (fs : List Fr) (xs : List Int) (i : Nat) (hx : ysum fs ≤ xs.length) : flat (midF fs xs i) = flat fs := by
  unfold midF
  rw [flat_append, loadF_flat, ← flat_append, List.take_append_drop]
  have : ysum fs = ysum (fs.take i) + ysum (fs.drop i) := by rw [← ysum_append, List.take_append_drop]
  omega
theorem midF_b (fs : List Fr) (xs : List Int) (i : Nat) : (midF fs xs i).map Fr.b = fs.map Fr.b := by
  unfold midF
  rw [List.map_append, loadF_b, ← List.map_append, List.take_append_drop]
theorem midF_length (fs : List Fr) (xs : List Int) (i : Nat) : (midF fs xs i).length = fs.length := by
  have := congrArg List.length (midF_b fs xs i)
  simpa using this
/-- What Load leaves. -/
def LoadPost (B s : Nat) (v : Value) (fs : List Fr) (m : Nat) (xs : List Int) (w : World) (e : Ending) (w' : World) : Prop :=
  e = .returned (.bool (decide (m = ysum fs))) ∧ St B w' s v (if m = ysum fs then loadF fs xs else fs) ∧ Mods (fun i => i ∈ fs.map Fr.b) w w'
theorem cut_words (A' : Option Addr) (m' c' yl : Nat) (S : Nat → Prop) (hm : yl ≤ m') (hc : m' ≤ c') (hb : ∀ ad, A' = some ad → ¬ S ad.block) :
    ∃ A'' : Option Addr, (∀ W : World, (Instr.slice 33 (.slice A' m' c') (some (.int .i64 (yl : Int))) none none).run Try.prog W = .ok (.slice A'' (m' - yl) (c' - yl)) W) ∧ (∀ (W : World) (zs : List Int), ReadsInt W .u64 A' m' zs → ReadsInt W .u64 A'' (m' - yl) (zs.drop yl)) ∧ (∀ ad, A'' = some ad → ¬ S ad.block) := by
  obtain ⟨i0, hi0, hz⟩ := Option.map_eq_some_iff.1 info64
  simp only [Prod.mk.injEq] at hz
  refine ⟨if c' = yl then A' else A'.map (·.add yl), fun W => ?_, fun W zs h => h.drop_ yl hm hc, ?_⟩
  · have := cut_from (P := Try.prog) 33 29 .i64 Try.underlying33 hi0 1 hz.2.1 A' m' c' (yl : Int) (by omega) (by omega) W
    simpa using this
  · intro ad he
    split at he
    · exact hb ad he
    · obtain ⟨ad', rfl, rfl⟩ := Option.map_eq_some_iff.1 he
      have : (ad'.add yl).block = ad'.block := by unfold Addr.add; split <;> rfl
      rw [this]
      exact hb ad' rfl
set_option maxHeartbeats 4000000 in
set_option maxRecDepth 100000 in
theorem load_calls (w : World) (B s : Nat) (v : Value) (fs : List Fr) (A : Option Addr) (m c : Nat) (xs : List Int) (h : St B w s v fs) (hr : ReadsInt w .u64 A m xs) (hmc : m ≤ c) (hna : ∀ ad, A = some ad → ad.block ∉ fs.map Fr.b) (hx : W64 xs) :
    Calls Try.prog 27 #[.pointer (some ⟨s, 0, none⟩), .slice A m c] w (LoadPost B s v fs m xs w) := by
  obtain ⟨i0, hi0, hz⟩ := Option.map_eq_some_iff.1 info64
  simp only [Prod.mk.injEq] at hz
  obtain ⟨hz0, hz1, hz2⟩ := hz
  have HI := Aside0.mk (And.intro hi0 hz1)
  clear hi0 hz0 hz1 hz2
  have c0 := h.c0
  have hl := h.2.2.2.2.2.1
  have hxl : xs.length = m := hr.1
  have H := Aside0.mk h
  have hy : ∀ i, ysum (fs.take i) ≤ fs.length * 12 := fun i => Nat.le_trans (ysum_le _ 12 fun f hf => by
    obtain ⟨_, _, h5, h6, _⟩ := h.2.2.2.1 f (List.mem_of_mem_take hf)
    omega) (Nat.mul_le_mul_right _ (by simp; omega))
  have hy0 : ysum fs ≤ 48000 := by have := hy fs.length; rw [List.take_length] at this; omega
  obtain ⟨A0, c1, hv, hc⟩ := h.2.2.1.form
  have HV : Aside0 (∀ i, i < fs.length → ∃ g, A0 = some ⟨g, 0, none⟩) := ⟨fun i hi => by
    obtain ⟨g, c', hv', _⟩ := h.2.2.1.some_ (by omega)
    rw [hv] at hv'; injection hv' with hv' _ _
    exact ⟨g, hv'⟩⟩
  rw [hv] at c0
  have HVV := Aside0.mk hv
  have HX := Aside0.mk hx
  have HW := Aside0.mk (words_calls w.drew B s v fs h)
  have HR := Aside0.mk hr
  have HNA := Aside0.mk hna
  have HXL := Aside0.mk hxl
  clear h hy hv hx hr hna hxl
  obtain ⟨Y, hY⟩ : ∃ Y, ysum fs = Y := ⟨_, rfl⟩
  have HYY := Aside0.mk hY
  rw [hY] at HW hy0
  clear hY
  have e1 : IntKind.i64.wrap (((fs.length + Y : Nat) : Int) - (fs.length : Nat)) = (Y : Int) := by rw [IntKind.wrap_i64]; omega
  have e2 : IntKind.i64.wrap ((fs.length : Int) + (Y : Int) - (fs.length : Int)) = (Y : Int) := by rw [IntKind.wrap_i64]; omega
  go_enter Try.func27, Try.ntmps27
  go_wp2
  go_region_held3 (fun w' => w'.cell? ⟨s, 0, none⟩ = some (.slice A0 fs.length c1))
    (first | go_keep | assumption)
    ((first
      | (go_at_call 24; refine HW.out.mono ?_; rintro e w2 ⟨rfl, hb⟩; have HB := Aside0.mk ((below_drew (Below.refl w.heap.size w)).trans hb); have cw_keep := pw_cell_below HB.out c0; clear hb)))
  clear e1 e2
  have c0 := cw_keep
  by_cases hmY : m = Y
  · subst hmY
    have b0 : ((m : Int) != (m : Int)) = false := by simp
    rw [b0]
    have HS := Aside0.mk (show St B w2 s v (midF fs xs 0) by rw [midF_zero]; exact H.out.below HB.out)
    have HM := Aside0.mk (Mods.of_below (fun i => i ∈ fs.map Fr.b) HB.out)
    have HRD := Aside0.mk (HR.out.below HB.out)
    have HFL := Aside0.mk (fun i => midF_flat fs xs i (by have := HYY.out; have := HXL.out; omega))
    go_wp2
    go_loopg [1, 24] (fs.length) (fun k v1 v24 wr => ∃ (i : Nat) (A' : Option Addr) (m' c' : Nat), k = fs.length - i ∧ i ≤ fs.length ∧ v24 = .int .i64 i ∧ v1 = .slice A' m' c' ∧ m' ≤ c' ∧ m' + ysum (fs.take i) = m ∧ Aside0 (ReadsInt wr .u64 A' m' (xs.drop (ysum (fs.take i)))) ∧ Aside0 (∀ ad, A' = some ad → ad.block ∉ fs.map Fr.b) ∧ Aside0 (St B wr s v (midF fs xs i)) ∧ Aside0 (Mods (fun i => i ∈ fs.map Fr.b) w wr))
    case atStart => exact ⟨0, A, m, c, by omega, by omega, rfl, rfl, hmc, by simp [ysum], by simpa [ysum] using HRD, HNA, HS, HM⟩
    case round =>
      clear HRD HS HM c0 cw_keep HB
      obtain ⟨i, A', m', c', rfl, hi, rfl, rfl, hmc', hsum, HRD, HNB, HS, HM⟩ := hrel
      by_cases hlt : i < fs.length
      · obtain ⟨g, rfl⟩ := HV.out i hlt
        have hs := HS.out
        rw [midF_at fs xs i hlt] at hs
        have HSP := Aside0.mk hs
        obtain ⟨cur, hcur, hco, hct⟩ := (hs.2.2.2.1 (fs[i]) (List.mem_append_right _ List.mem_cons_self)).2.1
        have hfl : (fs[i]).y.length ≤ (fs[i]).c ∧ (fs[i]).c ≤ 12 := by have := hs.2.2.2.1 (fs[i]) (List.mem_append_right _ List.mem_cons_self); exact ⟨this.2.2.1, this.2.2.2.1⟩
        have c1 : wr.cell? ⟨g, i * 2, none⟩ = some (.int .i64 (fs[i]).back) := HS.out.2.2.1.cell (c := c1) (by rw [HVV.out, midF_length]) _ _ (by rw [HFL.out]; exact (flat_at fs i hlt).1)
        have c2 : wr.cell? ⟨g, i * 2 + 1, none⟩ = some (.slice (some ⟨(fs[i]).b, (fs[i]).o, none⟩) (fs[i]).y.length (fs[i]).c) := HS.out.2.2.1.cell (by rw [HVV.out, midF_length]) _ _ (by rw [HFL.out]; exact (flat_at fs i hlt).2)
        have hss : ysum (fs.take (i + 1)) = ysum (fs.take i) + (fs[i]).y.length := ysum_take_succ fs i hlt
        have HSS := Aside0.mk hss
        have hms : (fs[i]).y.length ≤ m' := by
          have : ysum (fs.take (i + 1)) ≤ ysum fs := by
            have e : ysum fs = ysum (fs.take (i + 1)) + ysum (fs.drop (i + 1)) := by rw [← ysum_append, List.take_append_drop]
            omega
          have := HYY.out
          omega
        obtain ⟨A2, hcut, hcr, hcb⟩ := cut_words A' m' c' (fs[i]).y.length (fun k => k ∈ fs.map Fr.b) hms hmc' HNB.out
        have HCR := Aside0.mk hcr
        have HCB := Aside0.mk hcb
        have hmid : midF fs xs (i + 1) = loadF (fs.take i) xs ++ { fs[i] with y := (xs.drop (ysum (fs.take i))).take (fs[i]).y.length } :: fs.drop (i + 1) := midF_succ fs xs i hlt
        have HMID := Aside0.mk hmid
        have HIB := Aside0.mk (show (fs[i]).b ∈ fs.map Fr.b from List.mem_map_of_mem (List.getElem_mem hlt))
        have HFI := Aside0.mk (fun (W : World) (k : Below wr.heap.size wr W) => And.intro (k.block (fs[i]).b (blk_lt hcur) |>.trans hcur) (HRD.out.below k))
        have HCO := Aside0.mk (And.intro hco hct)
        clear hs hcur hco hct hss hcr hcb hmid
        generalize hfi : fs[i] = fi at *
        obtain ⟨fk, fb, fo, fc, fy⟩ := fi
        simp only at c1 c2 hfl hms hcut
        have b1 : (i : Int) < (fs.length : Int) := by omega
        obtain ⟨ys, hys⟩ : ∃ ys, (xs.drop (ysum (fs.take i))).take fy.length = ys := ⟨_, rfl⟩
        have hyl : ys.length = fy.length := by rw [← hys, List.length_take, HRD.out.1]; omega
        have HYL := Aside0.mk hyl
        have hyx : W64 ys := fun z hz => HX.out z (by rw [← hys] at hz; exact List.mem_of_mem_drop (List.mem_of_mem_take hz))
        have hmid : midF fs xs (i + 1) = loadF (fs.take i) xs ++ ({ back := fk, b := fb, o := fo, c := fc, y := ys } : Fr) :: fs.drop (i + 1) := by rw [← hys]; exact HMID.out
        have hb1 := bel_alloc wr (.cells #[.int .i64 fk, .slice (some ⟨fb, fo, none⟩) fy.length fc] 118)
        have HG1 := Aside0.mk (HFI.out _ hb1).1
        have HR1 := Aside0.mk (HFI.out _ hb1).2
        have HP1 := Aside0.mk (show 0 < (nums .u64 ys).length → (some (⟨fb, fo, none⟩ : Addr)) = some ⟨fb, fo, none⟩ ∧ ∃ ad, A' = some ad ∧ ∀ j u, (nums .u64 ys)[j]? = some u → (wr.alloc (.cells #[.int .i64 fk, .slice (some ⟨fb, fo, none⟩) fy.length fc] 118)).cell? (ad.add j) = some u from by
          intro h0
          obtain ⟨ad, ea, hc⟩ := HR1.out.2.2 (by simp [nums] at h0; omega)
          refine ⟨rfl, ad, ea, fun j u hu => ?_⟩
          simp only [nums, List.getElem?_map, Option.map_eq_some_iff] at hu
          obtain ⟨z, hz, rfl⟩ := hu
          have hj : j < ys.length := (List.getElem?_eq_some_iff.1 hz).1
          rw [hc j (by omega)]
          congr 2
          rw [← hys] at hz
          rw [List.getElem?_take, if_pos (by omega)] at hz
          simp [List.getD_eq_getElem?_getD, hz])
        have HST := Aside0.mk (fun (w' : World) (q1 : w'.heap[fb]? = some (.cells (splice (nums .u64 cur) fo (nums .u64 ys)).toArray 29 (0, 0))) (q2 : Mods (fun i => i = fb) (wr.alloc (.cells #[.int .i64 fk, .slice (some ⟨fb, fo, none⟩) fy.length fc] 118)) w') =>
          (show St B w' s v (midF fs xs (i + 1)) from by rw [hmid]; exact St.load_at (f := ⟨fk, fb, fo, fc, fy⟩) (HSP.out.below hb1) HG1.out HCO.out.1 hyl hyx q1 q2))
        have HB1 := Aside0.mk hb1
        have hmin : fy.length = Nat.min m' fy.length := (Nat.min_eq_right hms).symm
        have hfit : fo + (nums .u64 ys).length ≤ (nums .u64 cur).length := by have := HCO.out.1; simp [nums] at this ⊢; omega
        have HMF := Aside0.mk (And.intro hmin hfit)
        have HYS := Aside0.mk hys
        have HNL := Aside0.mk (show (nums .u64 ys).length = fy.length by simp [nums, hyl])
        have H1C := Aside0.mk (show ∀ u ∈ nums .u64 ys, u.oneCell' = true from by intro u hu; simp [nums] at hu; obtain ⟨z, _, rfl⟩ := hu; rfl)
        have HSZ := Aside0.mk (show (Try.prog.info? 29).map (·.size) = some 1 by rw [HI.out.1]; simp [HI.out.2])
        clear hys hyx hmid hb1 hyl hmin hfit HMID HFI HSP
        go_wp2_with ((with_reducible refine wpList_copy_mods (o := ⟨some 31, _, _, _, _, _⟩) rfl (.tmp 29) (.tmp 30) 33 33 rfl 29 Try.underlying33 HSZ.out (some ⟨fb, fo, none⟩) A' fy.length fc m' c' ?_ ?_ fb fo (nums .u64 cur) 29 HG1.out (nums .u64 ys) fy.length HNL.out HMF.out.1 HP1.out HMF.out.2 H1C.out ?_); rfl; rfl; intro w' HGG HMM)
        have b2 : (fy.length : Int) ≤ (m' : Int) := by omega
        go_wp2
        have HS2 := Aside0.mk (HST.out _ HGG.out HMM.out)
        have HM2 := Aside0.mk ((HM.out.then_below HB1.out).trans' (S' := fun k => k = fb) HMM.out (fun k hk => .inl (by rw [hk]; exact HIB.out)))
        have HRD2 := Aside0.mk (show ReadsInt w' .u64 A2 (m' - fy.length) (xs.drop (ysum (fs.take (i + 1)))) from by
          have q := HCR.out w' _ (reads_mods HR1.out HMM.out (fun ad e q => HNB.out ad e (by rw [show ad.block = fb from q]; exact HIB.out)))
          rw [List.drop_drop] at q
          rw [HSS.out]
          exact q)
        clear HST HGG HMM HM HRD HS
        go_roundg (fs.length - (i + 1))
        case measure => omega
        case rel => exact ⟨i + 1, A2, m' - fy.length, c' - fy.length, rfl, by omega, by go_num, rfl, by omega, by have := HSS.out; omega, HRD2, HCB, HS2, HM2⟩
      · have : i = fs.length := by omega
        subst this
        have b1 : ¬ (fs.length : Int) < (fs.length : Int) := by omega
        go_wp2
        go_ret
        refine ⟨by rw [HYY.out]; first | rfl | (simp; done), ?_, HM.out⟩
        rw [if_pos HYY.out.symm, ← midF_all fs xs]
        exact HS.out
  · have b0 : ((m : Int) != (Y : Int)) = true := by rw [bne_iff_ne]; omega
    have b2 : ¬ (m : Int) = (Y : Int) := by omega
    go_wp2
    go_ret
    refine ⟨by rw [HYY.out, decide_eq_false hmY]; first | rfl | (simp; done), ?_, Mods.of_below _ HB.out⟩
    rw [if_neg (by rw [HYY.out]; exact hmY)]
    exact H.out.below HB.out
end Go.Proofs.YthdmacdeefohkaaSLoad
