/- regs.Put; RegsPuts, walked. -/
import Derived.Test.YthdmacdeefohkaaEqM
import Derived.Test.YthdmacdeefohkaaCopyK
import Derived.WalkSpells
import Derived.Test.YthdmacdeefohkaaSource
import Derived.StillTailTactics
import Derived.Test.YthdmacdeefohkaaAwake21
import Derived.Deep.RegionHeld3
import Derived.Test.YthdmacdeefohkaaTcM
namespace Go.Proofs.YthdmacdeefohkaaPt
open Go.RowKit Go.Proofs.YthdmacdeefohkaaW.PrintWords Go.Proofs.YthdmacdeefohkaaW.PrintLast Go.Proofs.YthdmacdeefohkaaW.PrintMore Go.Proofs.YthdmacdeefohkaaMem Go.Proofs.YthdmacdeefohkaaLeaf Go.Proofs.YthdmacdeefohkaaBits Go.Proofs.Ythdmacdeefohkaa.PMa Go.Proofs.YthdmacdeefohkaaMTerm Go.Proofs.YthdmacdeefohkaaMVal Go.Proofs.YthdmacdeefohkaaCopyK Go.Proofs.YthdmacdeefohkaaTc Go.Proofs.YthdmacdeefohkaaRv Go.Proofs.YthdmacdeefohkaaOf Go.Proofs
set_option linter.unusedVariables false
set_option linter.unusedSimpArgs false
/-- The cells of a row whose elements have K cells each, side by side. -/
theorem flat_row {w : World} {ad : Addr} {K : Nat} {Q : Value → Prop} : ∀ (n : Nat), (∀ i, i < n → ∃ c : List Value, c.length = K ∧ (∀ j u, c[j]? = some u → w.cell? (ad.add (i * K + j)) = some u) ∧ ∀ u ∈ c, Q u) → ∃ cs : List Value, cs.length = n * K ∧ (∀ j u, cs[j]? = some u → w.cell? (ad.add j) = some u) ∧ ∀ u ∈ cs, Q u := by
  intro n
  induction n with
  | zero => intro _; exact ⟨[], by simp, fun j u h => by simp at h, fun u h => by simp at h⟩
  | succ n ih =>
    intro h
    obtain ⟨cs, h1, h2, h3⟩ := ih (fun i hi => h i (by omega))
    obtain ⟨c, q1, q2, q3⟩ := h n (by omega)
    refine ⟨cs ++ c, by rw [List.length_append, h1, q1, Nat.succ_mul], fun j u hu => ?_, fun u hu => ?_⟩
    · rcases Nat.lt_or_ge j cs.length with hlt | hge
      · rw [List.getElem?_append_left hlt] at hu
        exact h2 j u hu
      · rw [List.getElem?_append_right hge] at hu
        have := q2 _ u hu
        rw [h1] at this hge
        rw [show n * K + (j - n * K) = j by omega] at this
        exact this
    · rcases List.mem_append.1 hu with hu | hu
      · exact h3 u hu
      · exact q3 u hu
theorem term_one {x : S45} {A2 : Option Addr} {c2 : Nat} {A5 : Option Addr} {c5 : Nat} : ∀ u ∈ (cellsT x A2 c2 A5 c5).toList, u.oneCell' = true := by
  intro u hu
  simp [cellsT] at hu
  rcases hu with rfl | rfl | rfl | rfl | rfl | rfl <;> rfl
/-- A row of terms, as cells. -/
theorem flat_terms {w : World} {A : Option Addr} {n : Nat} {xs : List S45} (h : Kd.C k45 w A n xs) (hn : 0 < n) : ∃ (ad : Addr) (cs : List Value), A = some ad ∧ cs.length = n * 6 ∧ (∀ j u, cs[j]? = some u → w.cell? (ad.add j) = some u) ∧ ∀ u ∈ cs, Value.oneCell' u = true := by
  obtain ⟨ad, e, hx⟩ := h.2.2 hn
  obtain ⟨cs, q1, q2, q3⟩ := flat_row (w := w) (ad := ad) (K := 6) (Q := fun u => u.oneCell' = true) n (fun i hi => by
    have hl := h.1
    obtain ⟨c, _, hK, hc⟩ := hx i (xs[i]'(by omega)) (List.getElem?_eq_getElem (by omega))
    obtain ⟨A2, c2, A5, c5, rfl, _⟩ := k45_open hK
    exact ⟨_, rfl, hc, term_one⟩)
  exact ⟨ad, cs, e, q1, q2, q3⟩
theorem infoT : (Try.prog.info? 45).map (fun i => (i.zero, i.size, i.bytes)) = some (some (.agg #[.int .i64 0, .bool false, .slice none 0 0, .string ⟨#[]⟩, .int .i64 0, .slice none 0 0]), 6, 88) := by kernel_rfl
/-- append of a row onto an empty one. -/
theorem wp_append_0 {P : Program} {ops : Array Oper} {rest : List Oper} {o : Oper} {a : Act} {w : World} {Q : Exit → Act → World → Prop}
    (hg : o.guard = none) (s x : Operand) (t : TypeId) (hop : o.op = Op.call { callee := Callee.builtin Builtin.append, args := #[s, x], argTypes := #[t, t] })
    (e : TypeId) (z : Value) (size bytes : Nat) (ht : P.underlying t = some (.slice e)) (hinfo : (P.info? e).map (fun i => (i.zero, i.size, i.bytes)) = some (some z, size, bytes))
    (hzs : z.cells.size = size) (hsz : 0 < size)
    (b : Addr) (hs : a.eval s = .slice (some b) 0 0)
    (ad : Addr) (m c : Nat) (news : List Value) (hx : a.eval x = .slice (some ad) m c) (hl : news.length = m * size) (hnews : ∀ j u, news[j]? = some u → w.cell? (ad.add j) = some u)
    (hm : 0 < m) (h63 : m ≤ maxLen) (hbytes : m * bytes ≤ 140737488355328)
    (hK : ∀ (g c : Nat) (cur : Array Value) (w' : World), w.heap.size ≤ g → m ≤ c → w'.heap[g]? = some (.cells cur e (0, 0)) → (∀ (j : Nat) (u : Value), news[j]? = some u → cur[j]? = some u) → w.grownBy w' none → wpList P ops Q rest (a.put o.dst (.slice (some ⟨g, 0, none⟩) m c)) w') :
    wpList P ops Q (o :: rest) a w := by
  obtain ⟨i, hi, hzz⟩ := Option.map_eq_some_iff.1 hinfo
  simp only [Prod.mk.injEq] at hzz
  obtain ⟨hz, hsize, hby⟩ := hzz
  obtain ⟨v', w', hr, h2, h3⟩ := run_append_arg_grows (P := P) w t o.type e i z size bytes ht hi hz hsize hby hzs hsz b 0 0 [] (by simp) (by simp) ad m c news hl hnews (by omega) (by omega) (by simpa using hbytes)
  rw [Nat.zero_add, List.nil_append] at h2
  rcases h2.2 with ⟨_, h0⟩ | ⟨g, cap, cur, rfl, hb, hgc, hnc, _, hcs, htk⟩
  · omega
  · refine wpList_plain hg fun K' hK' => ?_
    unfold Oper.wp execOp
    simp only [hop, resolve, invoke, builtin, Sem.run_bind, Sem.run_pure, Result.andThen_ok, List.map_toArray, List.map_cons, List.map_nil, hs, hx, hr]
    refine hK' _ _ (hK g cap cur _ hb hnc hgc (fun j u hu => ?_) h3)
    rw [← htk] at hu
    rw [List.getElem?_take] at hu
    split at hu
    · simpa using hu
    · cases hu
/-- What a clone hands back. -/
def ClonePost (n : Nat) (cs : List Value) (w : World) (e : Ending) (w' : World) : Prop :=
  ∃ (g c : Nat) (cur : Array Value), e = .returned (.slice (some ⟨g, 0, none⟩) n c) ∧ n ≤ c ∧ w.heap.size ≤ g ∧ w'.heap[g]? = some (.cells cur 45 (0, 0)) ∧ (∀ (j : Nat) (u : Value), cs[j]? = some u → cur[j]? = some u) ∧ Below w.heap.size w w'
set_option maxHeartbeats 4000000 in
set_option maxRecDepth 100000 in
theorem clone_calls (w : World) (ad : Addr) (n c : Nat) (cs : List Value) (hn : 0 < n) (hn2 : n ≤ 1000) (hl : cs.length = n * 6) (hsrc : ∀ j u, cs[j]? = some u → w.cell? (ad.add j) = some u) :
    Calls Try.prog 102 #[.slice (some ad) n c] w (ClonePost n cs w) := by
  have hq := fun (W : World) => Lib.run_eql_slice_nil (P := Try.prog) W 43 45 (some ad) n c 0 0 Try.underlying43
  have hb : Below w.heap.size w (w.alloc (.cells #[] 45)) := below_alloc (Below.refl _ _) _
  have hs2 : ∀ j u, cs[j]? = some u → (w.alloc (.cells #[] 45)).cell? (ad.add j) = some u := fun j u hu => pw_cell_below hb (hsrc j u hu)
  have HB := Aside0.mk hb
  have HS := Aside0.mk hs2
  have HL := Aside0.mk hl
  have HN := Aside0.mk (And.intro hn hn2)
  clear hb hs2 hl hsrc hn hn2
  go_enter Try.func102, Try.ntmps102
  go_wp2_with (at_builtin; refine wp_append_0 rfl (.tmp 5) (.tmp 6) 43 rfl 45 _ 6 88 Try.underlying43 infoT rfl (by decide) ⟨w.heap.size, 0, none⟩ rfl ad n c cs rfl HL.out HS.out HN.out.1 (by have := HN.out.2; unfold maxLen; omega) (by have := HN.out.2; omega) ?_; intro g1 c1 cur1 w1 hg1 hc1 hblk hcur hgr; have HR := Aside0.mk (And.intro hg1 (And.intro hc1 (And.intro hblk (And.intro hcur hgr)))); clear hg1 hc1 hblk hcur hgr)
  go_ret
  obtain ⟨q1, q2, q3, q4, q5⟩ := HR.out
  exact ⟨g1, c1, cur1, rfl, q2, Nat.le_trans HB.out.size q1, q3, q4, HB.out.trans ⟨q5.os, q5.tape, q5.output, Nat.le_trans (Nat.le_of_eq rfl) q5.size, fun k hk => q5.block k (Nat.lt_of_lt_of_le hk HB.out.size) (by simp)⟩⟩
end Go.Proofs.YthdmacdeefohkaaPt
namespace Go.Proofs.YthdmacdeefohkaaPx
open Go.RowKit Go.Proofs.YthdmacdeefohkaaW.PrintWords Go.Proofs.YthdmacdeefohkaaW.PrintLast Go.Proofs.YthdmacdeefohkaaW.PrintMore Go.Proofs.YthdmacdeefohkaaMem Go.Proofs.YthdmacdeefohkaaLeaf Go.Proofs.YthdmacdeefohkaaBits Go.Proofs.Ythdmacdeefohkaa.PMa Go.Proofs.YthdmacdeefohkaaMTerm Go.Proofs.YthdmacdeefohkaaMVal Go.Proofs.YthdmacdeefohkaaCopyK Go.Proofs.YthdmacdeefohkaaTc Go.Proofs.YthdmacdeefohkaaRv Go.Proofs.YthdmacdeefohkaaOf Go.Proofs.YthdmacdeefohkaaPt Go.Proofs.YthdmacdeefohkaaRegs Go.Proofs
set_option linter.unusedVariables false
set_option linter.unusedSimpArgs false
/-- The slots of the running function. -/
def slotsOf (r : RV) : List S45 := if r.fr = true then (r.fs.getD (r.fs.length - 1) (0, [])).2 else []
def setX (r : RV) (i : Nat) (t : S45) : RV := { r with xs := r.xs.set i t }
def setY (r : RV) (i : Nat) (t : S45) : RV := { r with fs := r.fs.set (r.fs.length - 1) ((r.fs.getD (r.fs.length - 1) (0, [])).1, (slotsOf r).set i t) }
/-- What Put hands back. -/
def PutPost (r : RV) (ok : Bool) (w : World) (e : Ending) (w' : World) : Prop := ∃ cs, e = .returned (.tuple #[.agg cs, .bool ok]) ∧ Rd w' cs r ∧ Below w.heap.size w w'
theorem rd_one {w : World} {cs : Array Value} {r : RV} (h : Rd w cs r) : One cs := by
  intro j u hu
  have hj : j < 101 := by have := (Array.getElem?_eq_some_iff.1 hu).1; rw [h.1] at this; exact this
  by_cases h96 : j < 96
  · obtain ⟨A2, c2, A5, c5, _, q⟩ := h.2.2.1 (j / 6) (by omega)
    have e := q (j % 6) (Nat.mod_lt _ (by decide))
    rw [show j / 6 * 6 + j % 6 = j by omega, hu] at e
    refine term_one (x := r.xs.getD (j / 6) z45) (A2 := A2) (c2 := c2) (A5 := A5) (c5 := c5) u ?_
    have e' := e.symm
    rw [← Array.getElem?_toList] at e'
    exact List.mem_of_getElem? e'
  · obtain ⟨F, fc, q96, _, _⟩ := h.2.2.2.1
    obtain ⟨q97, q98, q99, q100⟩ := h.2.2.2.2
    have hc : j = 96 ∨ j = 97 ∨ j = 98 ∨ j = 99 ∨ j = 100 := by omega
    rcases hc with rfl | rfl | rfl | rfl | rfl
    · rw [hu] at q96; injection q96 with q; rw [q]; rfl
    · rw [hu] at q97; injection q97 with q; rw [q]; rfl
    · rw [hu] at q98; injection q98 with q; rw [q]; rfl
    · rw [hu] at q99; injection q99 with q; rw [q]; rfl
    · rw [hu] at q100; injection q100 with q; rw [q]; rfl
theorem rd_putX {w : World} {cs : Array Value} {r : RV} (h : Rd w cs r) {i : Nat} (hi : i < 16) {t : S45} {A2 : Option Addr} {c2 : Nat} {A5 : Option Addr} {c5 : Nat} (ht : Lies w t A2 c2 A5 c5) :
    Rd w (put6 cs i (.int .i64 t.f0) (.bool t.f1.f0) (.slice A2 t.f1.f1.length c2) (.string t.f2) (.int .i64 t.f3) (.slice A5 t.f4.length c5)) (setX r i t) := by
  obtain ⟨h1, h2, h3, ⟨F, fc, q96, hfc, hF⟩, q97, q98, q99, q100⟩ := h
  refine ⟨by rw [put6_size]; exact h1, by simpa [setX] using h2, fun k hk => ?_, ⟨F, fc, ?_, hfc, hF⟩, ?_, ?_, ?_, ?_⟩
  · by_cases he : k = i
    · subst he
      have e : (setX r k t).xs.getD k z45 = t := by simp [setX, List.getD_eq_getElem?_getD, h2, hk]
      rw [e]
      obtain ⟨e0, e1, e2, e3, e4, e5⟩ := put6_at cs k (.int .i64 t.f0) (.bool t.f1.f0) (.slice A2 t.f1.f1.length c2) (.string t.f2) (.int .i64 t.f3) (.slice A5 t.f4.length c5) (by omega)
      refine ⟨A2, c2, A5, c5, ht, fun j hj => ?_⟩
      match j, hj with
      | 0, _ => exact e0
      | 1, _ => exact e1
      | 2, _ => exact e2
      | 3, _ => exact e3
      | 4, _ => exact e4
      | 5, _ => exact e5
    · have e : (setX r i t).xs.getD k z45 = r.xs.getD k z45 := by simp [setX, List.getD_eq_getElem?_getD, List.getElem?_set_ne (Ne.symm he)]
      rw [e]
      obtain ⟨B2, d2, B5, d5, q1, q2⟩ := h3 k hk
      exact ⟨B2, d2, B5, d5, q1, fun j hj => by rw [put6_ne _ _ _ _ _ _ _ _ _ (by omega)]; exact q2 j hj⟩
  all_goals rw [put6_ne _ _ _ _ _ _ _ _ _ (by omega)]; assumption
theorem slots_any (w0 w : World) (cs : Array Value) (r : RV) (h : Rd w0 cs r) (hbw : Below w0.heap.size w0 w) (hl : r.fs.length ≤ 1000) :
    Calls Try.prog 101 #[.agg cs] w fun e w' => ∃ A c, e = .returned (.slice A (slotsOf r).length c) ∧ Kd.C k45 w0 A (slotsOf r).length (slotsOf r) ∧ (slotsOf r).length ≤ c ∧ Below w.heap.size w w' := by
  obtain ⟨F, fc, q96, hfc, hF⟩ := h.2.2.2.1
  obtain ⟨q97, _⟩ := h.2.2.2.2
  by_cases hfr : r.fr = true ∧ 0 < r.fs.length
  · obtain ⟨ad, Y, c, rfl, _, q, hc, hC⟩ := fr_at hF (r.fs.length - 1) (by omega)
    have e : slotsOf r = (r.fs.getD (r.fs.length - 1) (0, [])).2 := by unfold slotsOf; rw [if_pos hfr.1]
    refine (slots_calls w cs (some ad) r.fs.length fc r.fr _ q96 q97 (by omega) (.inr ⟨hfr.1, hfr.2, ad, rfl, pw_cell_below hbw q⟩)).mono ?_
    rintro e' w' ⟨rfl, hb⟩
    rw [e]
    exact ⟨Y, c, rfl, hC, hc, hb⟩
  · have e : slotsOf r = [] := by
      unfold slotsOf
      by_cases h1 : r.fr = true
      · have h2 : r.fs = [] := List.eq_nil_of_length_eq_zero (by have : ¬ 0 < r.fs.length := fun x => hfr ⟨h1, x⟩; omega)
        rw [if_pos h1, h2]; rfl
      · rw [if_neg h1]
    refine (slots_calls w cs F r.fs.length fc r.fr _ q96 q97 (by omega) (.inl ⟨?_, rfl⟩)).mono ?_
    · by_cases h1 : r.fr = true
      · exact .inr (by have : ¬ 0 < r.fs.length := fun x => hfr ⟨h1, x⟩; omega)
      · exact .inl (by simpa using h1)
    · rintro e' w' ⟨rfl, hb⟩
      rw [e]
      exact ⟨none, 0, rfl, Kd.C_nil _ _, Nat.le_refl _, hb⟩
/-- The four blocks of a call. -/
structure PB (w W : World) (g : Nat) (cs ar ct Z : Array Value) : Prop where
  b0 : W.heap[g]? = some (.cells cs 70 (0, 0))
  b1 : W.heap[g + 1]? = some (.cells ar 77 (0, 0))
  b2 : W.heap[g + 2]? = some (.cells ct 45 (0, 0))
  b3 : W.heap[g + 3]? = some (.cells Z 70 (0, 0))
  be : Below w.heap.size w W
  ge : w.heap.size ≤ g
theorem PB.mk' (w : World) (cs ar ct Z : Array Value) : PB w ((((w.alloc (.cells cs 70)).alloc (.cells ar 77)).alloc (.cells ct 45)).alloc (.cells Z 70)) w.heap.size cs ar ct Z := by
  refine ⟨?_, ?_, ?_, ?_, ?_, Nat.le_refl _⟩
  · exact blk_alloc (blk_alloc (blk_alloc (heap_alloc_new _ _) _) _) _
  · have := heap_alloc_new (w.alloc (.cells cs 70)) (.cells ar 77)
    rw [show (w.alloc (.cells cs 70)).heap.size = w.heap.size + 1 by simp] at this
    exact blk_alloc (blk_alloc this _) _
  · have := heap_alloc_new ((w.alloc (.cells cs 70)).alloc (.cells ar 77)) (.cells ct 45)
    rw [show ((w.alloc (.cells cs 70)).alloc (.cells ar 77)).heap.size = w.heap.size + 2 by simp] at this
    exact blk_alloc this _
  · have := heap_alloc_new (((w.alloc (.cells cs 70)).alloc (.cells ar 77)).alloc (.cells ct 45)) (.cells Z 70)
    rw [show (((w.alloc (.cells cs 70)).alloc (.cells ar 77)).alloc (.cells ct 45)).heap.size = w.heap.size + 3 by simp] at this
    exact this
  · exact below_alloc (below_alloc (below_alloc (below_alloc (Below.refl _ _) _) _) _) _
theorem PB.below {w W W' : World} {g : Nat} {cs ar ct Z : Array Value} (h : PB w W g cs ar ct Z) (hb : Below W.heap.size W W') : PB w W' g cs ar ct Z :=
  ⟨(hb.block _ (blk_lt h.b0)).trans h.b0, (hb.block _ (blk_lt h.b1)).trans h.b1, (hb.block _ (blk_lt h.b2)).trans h.b2, (hb.block _ (blk_lt h.b3)).trans h.b3, below_step h.be hb, h.ge⟩
set_option maxHeartbeats 8000000 in
set_option maxRecDepth 100000 in
theorem put_X (w : World) (cs : Array Value) (r : RV) (h : Rd w cs r) (hf : r.fs.length ≤ 1000) (N : Nat) (hN : N < 16) (la : Value) (t : S45) (A2 : Option Addr) (c2 : Nat) (A5 : Option Addr) (c5 : Nat) (ht : Lies w t A2 c2 A5 c5) :
    Calls Try.prog 70 #[.agg cs, .agg #[.int .i64 3, .int .i64 (N : Int), la], .agg (cellsT t A2 c2 A5 c5)] w (PutPost (setX r N t) true w) := by
  have hu45 := Try.underlying45
  have hu70 := Try.underlying70
  have hu67 := Try.underlying67
  have hu77 := Try.underlying77
  have hz : Try.zeroCells70.size = 101 := rfl
  obtain ⟨Z, hZ⟩ : ∃ Z, Try.zeroCells70 = Z := ⟨_, rfl⟩
  rw [hZ] at hz
  have P := PB.mk' w cs #[.int .i64 3, .int .i64 (N : Int), la] (cellsT t A2 c2 A5 c5) Z
  obtain ⟨W, hW⟩ : ∃ W, (((w.alloc (.cells cs 70)).alloc (.cells #[.int .i64 3, .int .i64 (N : Int), la] 77)).alloc (.cells (cellsT t A2 c2 A5 c5) 45)).alloc (.cells Z 70) = W := ⟨_, rfl⟩
  rw [hW] at P
  obtain ⟨g, hg⟩ : ∃ g, w.heap.size = g := ⟨_, rfl⟩
  obtain ⟨ga, hga⟩ : ∃ ga, g + 1 = ga := ⟨_, rfl⟩
  obtain ⟨gt, hgt⟩ : ∃ gt, ga + 1 = gt := ⟨_, rfl⟩
  obtain ⟨gr, hgr⟩ : ∃ gr, gt + 1 = gr := ⟨_, rfl⟩
  have e1 : g + 1 = ga := hga
  have e2 : g + 2 = gt := by omega
  have e3 : g + 3 = gr := by omega
  rw [hg] at P
  have HP := Aside0.mk P
  have HSL := Aside0.mk (slots_any W W cs r (h.below P.be) (Below.refl _ _) hf)
  have HF0 := Aside0.mk P.b0
  have HSZ := Aside0.mk (show (Try.prog.info? 70).map (·.size) = some cs.size by rw [h.1]; kernel_rfl)
  have HRd := Aside0.mk h
  have HT := Aside0.mk ht
  have HGG := Aside0.mk (show w.heap.size = g ∧ g + 1 = ga ∧ g + 2 = gt ∧ g + 3 = gr by omega)
  have HZ := Aside0.mk hz
  have hN1 : (N : Int) ≥ 0 := by omega
  have hN2 : (N : Int) < 16 := by omega
  have hN3 : (0 : Int) ≤ (N : Int) := by omega
  clear P h ht e1 e2 e3 hz
  go_enter Try.func70, Try.ntmps70
  go_wp2_with (first
    | ((with_reducible refine wpList_load_row (o := ⟨some 11, _, _, _, _, _⟩) rfl 70 (.tmp 3) rfl g ?_ 70 cs (0, 0) _ HF0.out hu70 rfl HSZ.out ?_); rfl))
  refine HSL.out.mono ?_
  rintro e w2 ⟨A, c, rfl, hC, hc, hb⟩
  have P2 := HP.out.below hb
  have HP2 := Aside0.mk P2
  have g0 := P2.b0
  have g1 := P2.b1
  have g2 := P2.b2
  have g3 := P2.b3
  rw [HGG.out.2.1] at g1
  rw [HGG.out.2.2.1] at g2
  rw [HGG.out.2.2.2] at g3
  have HE0 := Aside0.mk g0
  have HE3 := Aside0.mk g3
  have t0 : w2.cell? ⟨ga, 0, none⟩ = some (.int .i64 3) := (blk_cell g1 0).trans rfl
  have t1 : w2.cell? ⟨ga, 1, none⟩ = some (.int .i64 (N : Int)) := (blk_cell g1 1).trans rfl
  obtain ⟨a0, a1, a2, a3, a4, a5⟩ := six_cells g2
  have HKC := Aside0.mk (show ∀ j, j < 101 → ∃ u, cs[j]? = some u from fun j hj => ⟨_, Array.getElem?_eq_getElem (by rw [HRd.out.1]; exact hj)⟩)
  obtain ⟨u0, e0_⟩ := HKC.out (N * 6) (by omega)
  obtain ⟨u1, e1_⟩ := HKC.out (N * 6 + 1) (by omega)
  obtain ⟨u2, e2_⟩ := HKC.out (N * 6 + 2) (by omega)
  obtain ⟨u3, e3_⟩ := HKC.out (N * 6 + 3) (by omega)
  obtain ⟨u4, e4_⟩ := HKC.out (N * 6 + 4) (by omega)
  obtain ⟨u5, e5_⟩ := HKC.out (N * 6 + 5) (by omega)
  have p0 := (blk_cell g0 (N * 6)).trans e0_
  have p1 := (blk_cell g0 (N * 6 + 1)).trans e1_
  have p2 := (blk_cell g0 (N * 6 + 2)).trans e2_
  have p3 := (blk_cell g0 (N * 6 + 3)).trans e3_
  have p4 := (blk_cell g0 (N * 6 + 4)).trans e4_
  have p5 := (blk_cell g0 (N * 6 + 5)).trans e5_
  have f0 := blk_frozen g0 (N * 6)
  have f1 := blk_frozen g0 (N * 6 + 1)
  have f2 := blk_frozen g0 (N * 6 + 2)
  have f3 := blk_frozen g0 (N * 6 + 3)
  have f4 := blk_frozen g0 (N * 6 + 4)
  have f5 := blk_frozen g0 (N * 6 + 5)
  obtain ⟨C1, hC1⟩ : ∃ C1, put6 cs N (.int .i64 t.f0) (.bool t.f1.f0) (.slice A2 t.f1.f1.length c2) (.string t.f2) (.int .i64 t.f3) (.slice A5 t.f4.length c5) = C1 := ⟨_, rfl⟩
  obtain ⟨W3, hW3⟩ : ∃ W3, ((((((w2.setCell ⟨g, N * 6, none⟩ (.int .i64 t.f0)).setCell ⟨g, N * 6 + 1, none⟩ (.bool t.f1.f0)).setCell ⟨g, N * 6 + 2, none⟩ (.slice A2 t.f1.f1.length c2)).setCell ⟨g, N * 6 + 3, none⟩ (.string t.f2)).setCell ⟨g, N * 6 + 4, none⟩ (.int .i64 t.f3)).setCell ⟨g, N * 6 + 5, none⟩ (.slice A5 t.f4.length c5)) = W3 := ⟨_, rfl⟩
  have h3 : W3.heap[g]? = some (.cells C1 70 (0, 0)) := by rw [← hW3, ← hC1]; exact six_at g0
  have h3r : W3.heap[gr]? = some (.cells Z 70 (0, 0)) := by rw [← hW3]; exact six_mods.blk g3 (by have := HGG.out; omega)
  have hb3 : Below w.heap.size w W3 := by rw [← hW3]; exact six_below P2.be (by have := HGG.out; omega)
  have hR1 : Rd w C1 (setX r N t) := by rw [← hC1]; exact rd_putX HRd.out (by omega) HT.out
  have H3 := Aside0.mk h3
  have H3r := Aside0.mk h3r
  have HB3 := Aside0.mk hb3
  have HR1 := Aside0.mk hR1
  have HS1 := Aside0.mk (show (Try.prog.info? 70).map (·.size) = some C1.size by rw [hR1.1]; kernel_rfl)
  have HZ1 := Aside0.mk (show Z.size = C1.size by rw [hR1.1]; exact HZ.out)
  have H11 := Aside0.mk (rd_one hR1).all
  clear g0 g1 g2 g3 P2 hb h3 h3r hb3 hR1 e0_ e1_ e2_ e3_ e4_ e5_ hC hW HSL
  go_wp2_with (first
    | ((with_reducible refine wpList_load_row (o := ⟨some 32, _, _, _, _, _⟩) rfl 70 (.tmp 3) rfl g ?_ 70 C1 (0, 0) _ H3.out hu70 rfl HS1.out ?_); rfl)
    | ((with_reducible refine wpList_store_row (o := ⟨none, _, _, _, _, _⟩) rfl 70 (.tmp 6) (.tmp 32) rfl gr C1 ?_ ?_ 70 Z H3r.out HS1.out HZ1.out H11.out ?_); rfl; rfl))
  refine bodyPost_ret (results_ct rfl _ _ gr 70 C1 (0, 0) _ rfl (setRow_heap W3 gr _ _ _ _ H3r.out) Try.underlying70 rfl HS1.out) rfl ?_
  exact ⟨C1, rfl, HR1.out.below (below_setRow HB3.out (by have := HGG.out; omega) _), below_setRow HB3.out (by have := HGG.out; omega) _⟩
/-- Nothing is put. -/
def NoPut (r : RV) (tg N : Int) : Prop := (tg = 3 ∧ N < 0) ∨ (tg = 3 ∧ ¬ N < 0 ∧ 16 ≤ N) ∨ (tg = 4 ∧ N < 0) ∨ (tg = 4 ∧ ¬ N < 0 ∧ ((slotsOf r).length : Int) ≤ N) ∨ (tg = 4 ∧ ∃ i : Nat, N = (i : Int) ∧ i < (slotsOf r).length ∧ ((slotsOf r).getD i z45).f0 = 9) ∨ (tg ≠ 3 ∧ tg ≠ 4)
set_option maxHeartbeats 8000000 in
set_option maxRecDepth 100000 in
theorem put_no (w : World) (cs : Array Value) (r : RV) (h : Rd w cs r) (hf : r.fs.length ≤ 1000) (tg N : Int) (hno : NoPut r tg N) (la : Value) (ct : Array Value) :
    Calls Try.prog 70 #[.agg cs, .agg #[.int .i64 tg, .int .i64 N, la], .agg ct] w (PutPost r false w) := by
  have hu45 := Try.underlying45
  have hu70 := Try.underlying70
  have hu67 := Try.underlying67
  have hu77 := Try.underlying77
  have hz : Try.zeroCells70.size = 101 := rfl
  obtain ⟨Z, hZ⟩ : ∃ Z, Try.zeroCells70 = Z := ⟨_, rfl⟩
  rw [hZ] at hz
  have P := PB.mk' w cs #[.int .i64 tg, .int .i64 N, la] ct Z
  obtain ⟨W, hW⟩ : ∃ W, (((w.alloc (.cells cs 70)).alloc (.cells #[.int .i64 tg, .int .i64 N, la] 77)).alloc (.cells ct 45)).alloc (.cells Z 70) = W := ⟨_, rfl⟩
  rw [hW] at P
  obtain ⟨g, hg⟩ : ∃ g, w.heap.size = g := ⟨_, rfl⟩
  obtain ⟨ga, hga⟩ : ∃ ga, g + 1 = ga := ⟨_, rfl⟩
  obtain ⟨gt, hgt⟩ : ∃ gt, ga + 1 = gt := ⟨_, rfl⟩
  obtain ⟨gr, hgr⟩ : ∃ gr, gt + 1 = gr := ⟨_, rfl⟩
  have e1 : g + 1 = ga := hga
  have e2 : g + 2 = gt := by omega
  have e3 : g + 3 = gr := by omega
  rw [hg] at P
  have HP := Aside0.mk P
  have HSL := Aside0.mk (slots_any W W cs r (h.below P.be) (Below.refl _ _) hf)
  have HF0 := Aside0.mk P.b0
  have HSZ := Aside0.mk (show (Try.prog.info? 70).map (·.size) = some cs.size by rw [h.1]; kernel_rfl)
  have HRd := Aside0.mk h
  have HNO := Aside0.mk hno
  have HGG := Aside0.mk (show w.heap.size = g ∧ g + 1 = ga ∧ g + 2 = gt ∧ g + 3 = gr by omega)
  have HZ := Aside0.mk hz
  clear P h e1 e2 e3 hz hno
  go_enter Try.func70, Try.ntmps70
  go_wp2_with (first
    | ((with_reducible refine wpList_load_row (o := ⟨some 11, _, _, _, _, _⟩) rfl 70 (.tmp 3) rfl g ?_ 70 cs (0, 0) _ HF0.out hu70 rfl HSZ.out ?_); rfl))
  refine HSL.out.mono ?_
  rintro e w2 ⟨A, c, rfl, hC, hc, hb⟩
  have P2 := HP.out.below hb
  have g0 := P2.b0
  have g1 := P2.b1
  have g3 := P2.b3
  rw [HGG.out.2.1] at g1
  rw [HGG.out.2.2.2] at g3
  have t0 : w2.cell? ⟨ga, 0, none⟩ = some (.int .i64 tg) := (blk_cell g1 0).trans rfl
  have t1 : w2.cell? ⟨ga, 1, none⟩ = some (.int .i64 N) := (blk_cell g1 1).trans rfl
  have H3 := Aside0.mk g0
  have H3r := Aside0.mk g3
  have HB3 := Aside0.mk P2.be
  have HZ1 := Aside0.mk (show Z.size = cs.size by rw [HRd.out.1]; exact HZ.out)
  have H11 := Aside0.mk (rd_one HRd.out).all
  have hC2 := Kd.C_below hC hb
  obtain ⟨m, hm⟩ : ∃ m, (slotsOf r).length = m := ⟨_, rfl⟩
  have hno := HNO.out
  unfold NoPut at hno
  rw [hm] at hC2 hno hc ⊢
  clear g0 g1 g3 P2 hb hC hW HSL HNO
  rcases hno with ⟨rfl, q⟩ | ⟨rfl, q, q2⟩ | ⟨rfl, q⟩ | ⟨rfl, q, q2⟩ | ⟨rfl, i, rfl, hi, q⟩ | ⟨q, q2⟩
  · have q1 : ¬ N ≥ 0 := by omega
    clear hC2 hm
    go_wp2_with (first
      | ((with_reducible refine wpList_load_row (o := ⟨some 88, _, _, _, _, _⟩) rfl 70 (.tmp 3) rfl g ?_ 70 cs (0, 0) _ H3.out hu70 rfl HSZ.out ?_); rfl)
      | ((with_reducible refine wpList_store_row (o := ⟨none, _, _, _, _, _⟩) rfl 70 (.tmp 6) (.tmp 88) rfl gr cs ?_ ?_ 70 Z H3r.out HSZ.out HZ1.out H11.out ?_); rfl; rfl))
    refine bodyPost_ret (results_ct rfl _ _ gr 70 cs (0, 0) _ rfl (setRow_heap w2 gr _ _ _ _ H3r.out) Try.underlying70 rfl HSZ.out) rfl ?_
    exact ⟨cs, rfl, HRd.out.below (below_setRow HB3.out (by have := HGG.out; omega) _), below_setRow HB3.out (by have := HGG.out; omega) _⟩
  · have q1 : N ≥ 0 := by omega
    have q3 : ¬ N < 16 := by omega
    clear hC2 hm
    go_wp2_with (first
      | ((with_reducible refine wpList_load_row (o := ⟨some 88, _, _, _, _, _⟩) rfl 70 (.tmp 3) rfl g ?_ 70 cs (0, 0) _ H3.out hu70 rfl HSZ.out ?_); rfl)
      | ((with_reducible refine wpList_store_row (o := ⟨none, _, _, _, _, _⟩) rfl 70 (.tmp 6) (.tmp 88) rfl gr cs ?_ ?_ 70 Z H3r.out HSZ.out HZ1.out H11.out ?_); rfl; rfl))
    refine bodyPost_ret (results_ct rfl _ _ gr 70 cs (0, 0) _ rfl (setRow_heap w2 gr _ _ _ _ H3r.out) Try.underlying70 rfl HSZ.out) rfl ?_
    exact ⟨cs, rfl, HRd.out.below (below_setRow HB3.out (by have := HGG.out; omega) _), below_setRow HB3.out (by have := HGG.out; omega) _⟩
  · have q1 : ¬ N ≥ 0 := by omega
    clear hC2 hm
    go_wp2_with (first
      | ((with_reducible refine wpList_load_row (o := ⟨some 88, _, _, _, _, _⟩) rfl 70 (.tmp 3) rfl g ?_ 70 cs (0, 0) _ H3.out hu70 rfl HSZ.out ?_); rfl)
      | ((with_reducible refine wpList_store_row (o := ⟨none, _, _, _, _, _⟩) rfl 70 (.tmp 6) (.tmp 88) rfl gr cs ?_ ?_ 70 Z H3r.out HSZ.out HZ1.out H11.out ?_); rfl; rfl))
    refine bodyPost_ret (results_ct rfl _ _ gr 70 cs (0, 0) _ rfl (setRow_heap w2 gr _ _ _ _ H3r.out) Try.underlying70 rfl HSZ.out) rfl ?_
    exact ⟨cs, rfl, HRd.out.below (below_setRow HB3.out (by have := HGG.out; omega) _), below_setRow HB3.out (by have := HGG.out; omega) _⟩
  · have q1 : N ≥ 0 := by omega
    have q3 : ¬ N < (m : Int) := by omega
    clear hC2 hm
    go_wp2_with (first
      | ((with_reducible refine wpList_load_row (o := ⟨some 88, _, _, _, _, _⟩) rfl 70 (.tmp 3) rfl g ?_ 70 cs (0, 0) _ H3.out hu70 rfl HSZ.out ?_); rfl)
      | ((with_reducible refine wpList_store_row (o := ⟨none, _, _, _, _, _⟩) rfl 70 (.tmp 6) (.tmp 88) rfl gr cs ?_ ?_ 70 Z H3r.out HSZ.out HZ1.out H11.out ?_); rfl; rfl))
    refine bodyPost_ret (results_ct rfl _ _ gr 70 cs (0, 0) _ rfl (setRow_heap w2 gr _ _ _ _ H3r.out) Try.underlying70 rfl HSZ.out) rfl ?_
    exact ⟨cs, rfl, HRd.out.below (below_setRow HB3.out (by have := HGG.out; omega) _), below_setRow HB3.out (by have := HGG.out; omega) _⟩
  · have q1 : (i : Int) ≥ 0 := by omega
    have q3 : (i : Int) < (m : Int) := by omega
    obtain ⟨ad, X2, y2, X5, y5, rfl, _, k0, _⟩ := tm_at hC2 i hi
    rw [q] at k0
    clear hC2 hm
    go_wp2_with (first
      | ((with_reducible refine wpList_load_row (o := ⟨some 88, _, _, _, _, _⟩) rfl 70 (.tmp 3) rfl g ?_ 70 cs (0, 0) _ H3.out hu70 rfl HSZ.out ?_); rfl)
      | ((with_reducible refine wpList_store_row (o := ⟨none, _, _, _, _, _⟩) rfl 70 (.tmp 6) (.tmp 88) rfl gr cs ?_ ?_ 70 Z H3r.out HSZ.out HZ1.out H11.out ?_); rfl; rfl))
    refine bodyPost_ret (results_ct rfl _ _ gr 70 cs (0, 0) _ rfl (setRow_heap w2 gr _ _ _ _ H3r.out) Try.underlying70 rfl HSZ.out) rfl ?_
    exact ⟨cs, rfl, HRd.out.below (below_setRow HB3.out (by have := HGG.out; omega) _), below_setRow HB3.out (by have := HGG.out; omega) _⟩
  · have q1 : (tg == 3) = false := beq_eq_false_iff_ne.mpr q
    have q3 : (tg == 4) = false := beq_eq_false_iff_ne.mpr q2
    clear hC2 hm
    go_wp2_with (first
      | ((with_reducible refine wpList_load_row (o := ⟨some 88, _, _, _, _, _⟩) rfl 70 (.tmp 3) rfl g ?_ 70 cs (0, 0) _ H3.out hu70 rfl HSZ.out ?_); rfl)
      | ((with_reducible refine wpList_store_row (o := ⟨none, _, _, _, _, _⟩) rfl 70 (.tmp 6) (.tmp 88) rfl gr cs ?_ ?_ 70 Z H3r.out HSZ.out HZ1.out H11.out ?_); rfl; rfl))
    refine bodyPost_ret (results_ct rfl _ _ gr 70 cs (0, 0) _ rfl (setRow_heap w2 gr _ _ _ _ H3r.out) Try.underlying70 rfl HSZ.out) rfl ?_
    exact ⟨cs, rfl, HRd.out.below (below_setRow HB3.out (by have := HGG.out; omega) _), below_setRow HB3.out (by have := HGG.out; omega) _⟩
end Go.Proofs.YthdmacdeefohkaaPx
namespace Go.Proofs.YthdmacdeefohkaaPy
open Go.RowKit Go.Proofs.YthdmacdeefohkaaW.PrintWords Go.Proofs.YthdmacdeefohkaaW.PrintLast Go.Proofs.YthdmacdeefohkaaW.PrintMore Go.Proofs.YthdmacdeefohkaaMem Go.Proofs.YthdmacdeefohkaaLeaf Go.Proofs.YthdmacdeefohkaaBits Go.Proofs.Ythdmacdeefohkaa.PMa Go.Proofs.YthdmacdeefohkaaMTerm Go.Proofs.YthdmacdeefohkaaMVal Go.Proofs.YthdmacdeefohkaaCopyK Go.Proofs.YthdmacdeefohkaaTc Go.Proofs.YthdmacdeefohkaaRv Go.Proofs.YthdmacdeefohkaaOf Go.Proofs.YthdmacdeefohkaaPt Go.Proofs.YthdmacdeefohkaaRegs Go.Proofs.YthdmacdeefohkaaPx Go.Proofs
set_option linter.unusedVariables false
set_option linter.unusedSimpArgs false
/-- A row of frames, as cells. -/
theorem flat_frames {w : World} {A : Option Addr} {n : Nat} {fs : List Frm} (h : Kd.C kFr w A n fs) (hn : 0 < n) : ∃ (ad : Addr) (cs : List Value), A = some ad ∧ cs.length = n * 2 ∧ (∀ j u, cs[j]? = some u → w.cell? (ad.add j) = some u) ∧ ∀ u ∈ cs, Value.oneCell' u = true := by
  obtain ⟨ad, e, hx⟩ := h.2.2 hn
  obtain ⟨cs, q1, q2, q3⟩ := flat_row (w := w) (ad := ad) (K := 2) (Q := fun u => u.oneCell' = true) n (fun i hi => by
    have hl := h.1
    obtain ⟨c, _, hK, hc⟩ := hx i (fs[i]'(by omega)) (List.getElem?_eq_getElem (by omega))
    generalize fs[i]'(by omega) = f at hK
    obtain ⟨c0, c1, rfl, q0, ⟨Y, cy, rfl, _⟩⟩ := hK
    have q0' : c0 = [.int .i64 f.1] := q0
    subst q0'
    exact ⟨_, rfl, hc, fun u hu => by simp at hu; rcases hu with rfl | rfl <;> rfl⟩)
  exact ⟨ad, cs, e, q1, q2, q3⟩
theorem make_frames (n : Nat) (hn : n ≤ 1000) (W : World) : (Instr.makeSlice 68 (.int .i64 (n : Int)) (.int .i64 (n : Int))).run Try.prog W = .ok (.slice (some ⟨W.heap.size, 0, none⟩) n n) (W.alloc (.cells (madeCells #[Value.int .i64 0, .slice none 0 0] (n * 2)) 73)) := by
  obtain ⟨i, hi, hzz⟩ := Option.map_eq_some_iff.1 infoFr
  simp only [Prod.mk.injEq] at hzz
  obtain ⟨hz, hsz, hby⟩ := hzz
  have hsz' : i.size = 2 := hsz
  have hr := run_make (P := Try.prog) W 68 73 i _ Try.underlying68 hi hz .i64 .i64 n n (by omega) (by omega) (by rw [hby]; omega) (by omega)
  rw [hsz', show (Value.agg #[Value.int IntKind.i64 0, Value.slice none 0 0]).cells = #[Value.int IntKind.i64 0, Value.slice none 0 0] from rfl] at hr
  simpa using hr
/-- A row of terms of which one was turned behind a clone. -/
theorem row_put {w0 W : World} {ad : Addr} {m : Nat} {ys : List S45} (hC : Kd.C k45 w0 (some ad) m ys) (hb : Below w0.heap.size w0 W) {tcs : List Value} (htl : tcs.length = m * 6) (hts : ∀ (j : Nat) (u : Value), tcs[j]? = some u → w0.cell? (ad.add j) = some u)
    {cur : Array Value} (hcur : ∀ (j : Nat) (u : Value), tcs[j]? = some u → cur[j]? = some u) {N : Nat} (hN : N < m) {t : S45} {A2 : Option Addr} {c2 : Nat} {A5 : Option Addr} {c5 : Nat} (ht : Lies W t A2 c2 A5 c5) {g : Nat}
    (h6 : W.heap[g]? = some (.cells (put6 cur N (.int .i64 t.f0) (.bool t.f1.f0) (.slice A2 t.f1.f1.length c2) (.string t.f2) (.int .i64 t.f3) (.slice A5 t.f4.length c5)) 45 (0, 0))) :
    Kd.C k45 W (some ⟨g, 0, none⟩) m (ys.set N t) := by
  have hm := Kd.C_max hC
  have hl := hC.1
  have hsz : N * 6 + 5 < cur.size := by
    have := hcur (N * 6 + 5) _ (List.getElem?_eq_getElem (by omega))
    exact (Array.getElem?_eq_some_iff.1 this).1
  obtain ⟨e0, e1, e2, e3, e4, e5⟩ := put6_at cur N (.int .i64 t.f0) (.bool t.f1.f0) (.slice A2 t.f1.f1.length c2) (.string t.f2) (.int .i64 t.f3) (.slice A5 t.f4.length c5) hsz
  refine ⟨by simpa using hl, hm, fun hpos => ⟨_, rfl, fun j p hp => ?_⟩⟩
  have hj : j < m := by have := (List.getElem?_eq_some_iff.1 hp).1; simp at this; omega
  by_cases he : j = N
  · subst he
    have e : p = t := by rw [List.getElem?_set_self (by omega)] at hp; exact (Option.some.inj hp).symm
    subst e
    refine ⟨(cellsT p A2 c2 A5 c5).toList, rfl, k45_mk W p ht.2.1 ht.1 ht.2.2.2 ht.2.2.1, fun i u hu => ?_⟩
    have hi : i < 6 := (List.getElem?_eq_some_iff.1 hu).1
    rw [add_plain]
    refine (blk_cell h6 _).trans ?_
    rw [show k45.sz = 6 from rfl]
    match i, hi, hu with
    | 0, _, hu => rw [← hu]; exact e0
    | 1, _, hu => rw [← hu]; exact e1
    | 2, _, hu => rw [← hu]; exact e2
    | 3, _, hu => rw [← hu]; exact e3
    | 4, _, hu => rw [← hu]; exact e4
    | 5, _, hu => rw [← hu]; exact e5
  · rw [List.getElem?_set_ne (Ne.symm he)] at hp
    obtain ⟨ad', e', hx⟩ := hC.2.2 hpos
    injection e' with e'
    subst e'
    obtain ⟨c, hcl, hK, hc⟩ := hx j p hp
    obtain ⟨B2, d2, B5, d5, rfl, l2, g2, l5, g5⟩ := k45_open hK
    have hlies : Lies w0 p B2 d2 B5 d5 := ⟨g2, l2, g5, l5⟩
    have hq := hlies.below hb
    refine ⟨(cellsT p B2 d2 B5 d5).toList, rfl, k45_mk W p hq.2.1 hq.1 hq.2.2.2 hq.2.2.1, fun i u hu => ?_⟩
    have hi : i < 6 := (List.getElem?_eq_some_iff.1 hu).1
    rw [add_plain]
    refine (blk_cell h6 _).trans ?_
    rw [show k45.sz = 6 from rfl, put6_ne _ _ _ _ _ _ _ _ _ (by omega)]
    have h1 : tcs[j * 6 + i]? = some (tcs[j * 6 + i]'(by omega)) := List.getElem?_eq_getElem (by omega)
    have h2 := hts _ _ h1
    have h3 := hc i u hu
    rw [show k45.sz = 6 from rfl] at h3
    rw [h3] at h2
    rw [hcur _ _ h1, ← Option.some.inj h2]
/-- A row of frames of which one has other slots. -/
theorem frames_put {w0 W : World} {fa : Addr} {n : Nat} {fs : List Frm} (hF : Kd.C kFr w0 (some fa) n fs) (hb : Below w0.heap.size w0 W) {fcs : List Value} (hfl : fcs.length = n * 2) (hfs : ∀ (j : Nat) (u : Value), fcs[j]? = some u → w0.cell? (fa.add j) = some u)
    {l : Nat} (hl : l < n) {Y : Option Addr} {c : Nat} {ys : List S45} (hY : Kd.C k45 W Y ys.length ys) (hc : ys.length ≤ c) {g : Nat} (h6 : W.heap[g]? = some (.cells (fcs.toArray.setIfInBounds (l * 2 + 1) (.slice Y ys.length c)) 73 (0, 0))) :
    Kd.C kFr W (some ⟨g, 0, none⟩) n (fs.set l ((fs.getD l (0, [])).1, ys)) := by
  have hm := Kd.C_max hF
  have hll := hF.1
  refine ⟨by simpa using hll, hm, fun hpos => ⟨_, rfl, fun j p hp => ?_⟩⟩
  have hj : j < n := by have := (List.getElem?_eq_some_iff.1 hp).1; simp at this; omega
  obtain ⟨ad', Z, cz, e', r0, r1, hcz, hZ⟩ := fr_at hF j hj
  injection e' with e'
  subst e'
  have h0 : fcs[j * 2]? = some (.int .i64 (fs.getD j (0, [])).1) := by
    have h1 : fcs[j * 2]? = some (fcs[j * 2]'(by omega)) := List.getElem?_eq_getElem (by omega)
    have h2 := hfs _ _ h1
    rw [r0] at h2
    rw [h1, ← Option.some.inj h2]
  have h1 : fcs[j * 2 + 1]? = some (.slice Z (fs.getD j (0, [])).2.length cz) := by
    have h1 : fcs[j * 2 + 1]? = some (fcs[j * 2 + 1]'(by omega)) := List.getElem?_eq_getElem (by omega)
    have h2 := hfs _ _ h1
    rw [← add_field _ _ 1 (by omega)] at r1
    rw [r1] at h2
    rw [h1, ← Option.some.inj h2]
  by_cases he : j = l
  · subst he
    have e : p = ((fs.getD j (0, [])).1, ys) := by rw [List.getElem?_set_self (by omega)] at hp; exact (Option.some.inj hp).symm
    subst e
    refine ⟨[.int .i64 (fs.getD j (0, [])).1, .slice Y ys.length c], rfl, ⟨[.int .i64 (fs.getD j (0, [])).1], [.slice Y ys.length c], rfl, rfl, ⟨Y, c, rfl, hc, hY⟩⟩, fun i u hu => ?_⟩
    have hi : i < 2 := (List.getElem?_eq_some_iff.1 hu).1
    rw [add_plain]
    refine (blk_cell h6 _).trans ?_
    rw [show kFr.sz = 2 from rfl, Array.getElem?_setIfInBounds]
    match i, hi, hu with
    | 0, _, hu => rw [if_neg (by omega), List.getElem?_toArray, ← hu]; exact h0
    | 1, _, hu => rw [if_pos rfl, if_pos (by rw [List.size_toArray]; omega), ← hu]; rfl
  · rw [List.getElem?_set_ne (Ne.symm he)] at hp
    have e : fs.getD j (0, []) = p := by rw [List.getD_eq_getElem?_getD, hp]; rfl
    rw [e] at h0 h1 hcz hZ
    refine ⟨[.int .i64 p.1, .slice Z p.2.length cz], rfl, ⟨[.int .i64 p.1], [.slice Z p.2.length cz], rfl, rfl, ⟨Z, cz, rfl, hcz, Kd.C_below hZ hb⟩⟩, fun i u hu => ?_⟩
    have hi : i < 2 := (List.getElem?_eq_some_iff.1 hu).1
    rw [add_plain]
    refine (blk_cell h6 _).trans ?_
    rw [show kFr.sz = 2 from rfl, Array.getElem?_setIfInBounds, if_neg (by omega), List.getElem?_toArray]
    match i, hi, hu with
    | 0, _, hu => rw [← hu]; exact h0
    | 1, _, hu => rw [← hu]; exact h1
set_option maxHeartbeats 8000000 in
set_option maxRecDepth 100000 in
theorem put_Y (w : World) (cs : Array Value) (r : RV) (h : Rd w cs r) (hf : r.fs.length ≤ 1000) (N : Nat) (hN : N < (slotsOf r).length) (hk9 : ((slotsOf r).getD N z45).f0 ≠ 9) (hs : (slotsOf r).length ≤ 1000) (la : Value) (t : S45) (A2 : Option Addr) (c2 : Nat) (A5 : Option Addr) (c5 : Nat) (ht : Lies w t A2 c2 A5 c5) :
    Calls Try.prog 70 #[.agg cs, .agg #[.int .i64 4, .int .i64 (N : Int), la], .agg (cellsT t A2 c2 A5 c5)] w (PutPost (setY r N t) true w) := by
  have hu45 := Try.underlying45
  have hu70 := Try.underlying70
  have hu67 := Try.underlying67
  have hu77 := Try.underlying77
  have hz : Try.zeroCells70.size = 101 := rfl
  obtain ⟨Z, hZ⟩ : ∃ Z, Try.zeroCells70 = Z := ⟨_, rfl⟩
  rw [hZ] at hz
  have P := PB.mk' w cs #[.int .i64 4, .int .i64 (N : Int), la] (cellsT t A2 c2 A5 c5) Z
  obtain ⟨W, hW⟩ : ∃ W, (((w.alloc (.cells cs 70)).alloc (.cells #[.int .i64 4, .int .i64 (N : Int), la] 77)).alloc (.cells (cellsT t A2 c2 A5 c5) 45)).alloc (.cells Z 70) = W := ⟨_, rfl⟩
  rw [hW] at P
  obtain ⟨g, hg⟩ : ∃ g, w.heap.size = g := ⟨_, rfl⟩
  obtain ⟨ga, hga⟩ : ∃ ga, g + 1 = ga := ⟨_, rfl⟩
  obtain ⟨gt, hgt⟩ : ∃ gt, ga + 1 = gt := ⟨_, rfl⟩
  obtain ⟨gr, hgr⟩ : ∃ gr, gt + 1 = gr := ⟨_, rfl⟩
  have e1 : g + 1 = ga := hga
  have e2 : g + 2 = gt := by omega
  have e3 : g + 3 = gr := by omega
  rw [hg] at P
  have HP := Aside0.mk P
  have HSL := Aside0.mk (slots_any w W cs r h P.be hf)
  have HF0 := Aside0.mk P.b0
  have HSZ := Aside0.mk (show (Try.prog.info? 70).map (·.size) = some cs.size by rw [h.1]; kernel_rfl)
  have HRd := Aside0.mk h
  have HT := Aside0.mk ht
  have HGG := Aside0.mk (show w.heap.size = g ∧ g + 1 = ga ∧ g + 2 = gt ∧ g + 3 = gr by omega)
  have HZ := Aside0.mk hz
  have hN1 : (N : Int) ≥ 0 := by omega
  have hN3 : (0 : Int) ≤ (N : Int) := by omega
  clear P h ht e1 e2 e3 hz
  go_enter Try.func70, Try.ntmps70
  go_wp2_with (first
    | ((with_reducible refine wpList_load_row (o := ⟨some 11, _, _, _, _, _⟩) rfl 70 (.tmp 3) rfl g ?_ 70 cs (0, 0) _ HF0.out hu70 rfl HSZ.out ?_); rfl))
  refine HSL.out.mono ?_
  rintro e w2 ⟨A, c, rfl, hC, hc, hb⟩
  have P2 := HP.out.below hb
  have g0 := P2.b0
  have g1 := P2.b1
  have g2 := P2.b2
  have g3 := P2.b3
  rw [HGG.out.2.1] at g1
  rw [HGG.out.2.2.1] at g2
  rw [HGG.out.2.2.2] at g3
  have HE0 := Aside0.mk g0
  have HE1 := Aside0.mk g1
  have HE2 := Aside0.mk g2
  have HE3 := Aside0.mk g3
  have HB2 := Aside0.mk P2.be
  have t0 : w2.cell? ⟨ga, 0, none⟩ = some (.int .i64 4) := (blk_cell g1 0).trans rfl
  have t1 : w2.cell? ⟨ga, 1, none⟩ = some (.int .i64 (N : Int)) := (blk_cell g1 1).trans rfl
  have hC2 := Kd.C_below (Kd.C_below hC HP.out.be) hb
  have HCw := Aside0.mk hC
  obtain ⟨F, fc, q96, hfc, hF⟩ := HRd.out.2.2.2.1
  have HFw := Aside0.mk hF
  have t2 : w2.cell? ⟨g, 96, none⟩ = some (.slice F r.fs.length fc) := (blk_cell g0 96).trans q96
  have hfr : r.fr = true ∧ 0 < r.fs.length := by
    constructor
    · cases hq : r.fr
      · simp [slotsOf, hq] at hN
      · rfl
    · cases hq : r.fs with
      | nil => simp [slotsOf, hq] at hN
      | cons a l => simp
  obtain ⟨m, hm⟩ : ∃ m, (slotsOf r).length = m := ⟨_, rfl⟩
  obtain ⟨n, hn⟩ : ∃ n, r.fs.length = n := ⟨_, rfl⟩
  obtain ⟨k, hk⟩ : ∃ k, ((slotsOf r).getD N z45).f0 = k := ⟨_, rfl⟩
  rw [hm] at hC2 HCw hN hs hc
  rw [hn] at q96 t2 hfr hf HFw hfc
  obtain ⟨ad, X2, y2, X5, y5, rfl, _, k0, _⟩ := tm_at hC2 N hN
  rw [hk] at k0 hk9
  have q1 : (N : Int) < (m : Int) := by omega
  have q2 : (k == 9) = false := beq_eq_false_iff_ne.mpr hk9
  have q3 : (k != 9) = true := by simp [hk9]
  have q4 : IntKind.i64.wrap ((n : Int) - 1) = ((n - 1 : Nat) : Int) := by rw [IntKind.wrap_i64]; have := hfr.2; omega
  have HC2 := Aside0.mk hC2
  have HNM := Aside0.mk (And.intro hm (And.intro hn hk))
  have HFR := Aside0.mk hfr
  have HC9 := Aside0.mk hk9
  clear g0 g1 g2 g3 P2 hb hC hW HSL hC2 hF hm hn hk hfr hk9
  rw [HNM.out.1]
  -- the frames' copy
  obtain ⟨fa, fcs, rfl, hfl, hfs, hf1⟩ := flat_frames HFw.out HFR.out.2
  obtain ⟨M, hM⟩ : ∃ M, madeCells #[Value.int .i64 0, .slice none 0 0] (n * 2) = M := ⟨_, rfl⟩
  have hmk : ∀ W : World, (Instr.makeSlice 68 (.int .i64 (n : Int)) (.int .i64 (n : Int))).run Try.prog W = .ok (.slice (some ⟨W.heap.size, 0, none⟩) n n) (W.alloc (.cells M 73)) := fun W => by rw [← hM]; exact make_frames n hf W
  have hMs : M.size = n * 2 := by rw [← hM]; exact size_madeCells _ _
  obtain ⟨gf, hgf⟩ : ∃ gf, w2.heap.size = gf := ⟨_, rfl⟩
  obtain ⟨W4, hW4⟩ : ∃ W4, w2.alloc (.cells M 73) = W4 := ⟨_, rfl⟩
  have hb4 : Below w2.heap.size w2 W4 := by rw [← hW4]; exact below_alloc (Below.refl _ _) _
  have m4 : W4.heap[gf]? = some (.cells M 73 (0, 0)) := by rw [← hW4, ← hgf]; exact heap_alloc_new _ _
  obtain ⟨W5, hW5⟩ : ∃ W5, W4.setRow gf fcs.toArray = W5 := ⟨_, rfl⟩
  have m5 : W5.heap[gf]? = some (.cells fcs.toArray 73 (0, 0)) := by rw [← hW5]; exact setRow_heap W4 gf _ _ _ _ m4
  have hb5 : Below w2.heap.size w2 W5 := by rw [← hW5]; exact below_setRow hb4 (by omega) _
  have hspl : splice M.toList 0 fcs = fcs := by
    unfold splice
    rw [List.take_zero, List.nil_append, List.drop_eq_nil_of_le (by rw [Array.length_toList, hMs, hfl]; omega), List.append_nil]
  obtain ⟨ta, tcs, hta, htl, hts, ht1⟩ := flat_terms HCw.out (by omega : 0 < m)
  injection hta with hta
  subst hta
  have HCL := Aside0.mk (clone_calls W5 ad m c tcs (by omega) hs htl (fun j u hj => pw_cell_below hb5 (pw_cell_below HB2.out (hts j u hj))))
  have hpos : 0 < n → ∃ ad, (some fa) = some ad ∧ ∀ j v, fcs[j]? = some v → W4.cell? (ad.add j) = some v := fun _ => ⟨fa, rfl, fun j v hj => pw_cell_below hb4 (pw_cell_below HB2.out (hfs j v hj))⟩
  have HM4 := Aside0.mk (show W4.heap[gf]? = some (.cells M.toList.toArray 73 (0, 0)) by rw [Array.toArray_toList]; exact m4)
  have HM5 := Aside0.mk m5
  have HB5 := Aside0.mk hb5
  have HPOS := Aside0.mk hpos
  have HFL := Aside0.mk (And.intro hfl (And.intro hfs (And.intro hf1 hspl)))
  have HTL := Aside0.mk (And.intro htl (And.intro hts ht1))
  have HFIT := Aside0.mk (show 0 + fcs.length ≤ M.toList.length by have : M.toList.length = M.size := Array.length_toList; omega)
  have HMIN := Aside0.mk (show n = Nat.min n n from (Nat.min_self n).symm)
  have HGF := Aside0.mk (show g + 3 < gf by rw [← hgf]; have h1 := blk_lt HE3.out; have := HGG.out; omega)
  have HSZF := Aside0.mk (show (Try.prog.info? 73).map (·.size) = some 2 by kernel_rfl)
  have hu68 := Try.underlying68
  have p96 : W4.cell? ⟨g, 96, none⟩ = some (.slice (some fa) n fc) := pw_cell_below hb4 t2
  clear hM hMs hb4 m4 m5 hb5 hspl hpos hfl hfs hf1 htl hts ht1
  go_wp2_with (first
    | ((with_reducible refine wpList_copyK (o := ⟨some 69, _, _, _, _, _⟩) rfl (.tmp 66) (.tmp 68) 68 68 rfl 73 2 hu68 HSZF.out (some ⟨gf, 0, none⟩) (some fa) n n n fc ?_ ?_ gf 0 M.toList 73 HM4.out fcs n HMIN.out HFL.out.1 (fun h => ⟨rfl, HPOS.out h⟩) HFIT.out HFL.out.2.2.1 ?_); rfl; rfl; rintro w9 ⟨hw9⟩; rw [HFL.out.2.2.2, hW5] at hw9; subst hw9))
  refine HCL.out.mono ?_
  rintro e w6 ⟨g6, c6, cur6, rfl, hc6, hg6, h6, hcur6, hb6⟩
  have HB6 := Aside0.mk (below_step (below_step HB2.out HB5.out) hb6)
  have hb26 := below_step HB5.out hb6
  have HB26 := Aside0.mk hb26
  have j0 := (hb26.block _ (blk_lt HE0.out)).trans HE0.out
  have j1 := (hb26.block _ (blk_lt HE1.out)).trans HE1.out
  have j2 := (hb26.block _ (blk_lt HE2.out)).trans HE2.out
  have j3 := (hb26.block _ (blk_lt HE3.out)).trans HE3.out
  have jf := (hb6.block _ (blk_lt HM5.out)).trans HM5.out
  have hne : gf < g6 := by have := blk_lt HM5.out; omega
  obtain ⟨v0, hv0⟩ : ∃ v, fcs[(n - 1) * 2 + 1]? = some v := ⟨_, List.getElem?_eq_getElem (by have := HFL.out.1; have := HFR.out.2; omega)⟩
  have kf : w6.cell? ⟨gf, (n - 1) * 2 + 1, none⟩ = some v0 := (blk_cell jf _).trans (by rw [List.getElem?_toArray]; exact hv0)
  have kff := blk_frozen jf ((n - 1) * 2 + 1)
  have q5 : ((n - 1 : Nat) : Int) < (n : Int) := by have := HFR.out.2; omega
  have q6 : ¬ ((n - 1 : Nat) : Int) < 0 := by omega
  have s0 : w6.cell? ⟨ga, 1, none⟩ = some (.int .i64 (N : Int)) := (blk_cell j1 1).trans rfl
  obtain ⟨a0, a1, a2, a3, a4, a5⟩ := six_cells j2
  obtain ⟨W7, hW7⟩ : ∃ W7, w6.setCell ⟨gf, (n - 1) * 2 + 1, none⟩ (.slice (some ⟨g6, 0, none⟩) m c6) = W7 := ⟨_, rfl⟩
  have hB7 : Below w.heap.size w W7 := by rw [← hW7]; exact below_set HB6.out (by have := HGG.out; have := HGF.out; omega)
  have m7 : Mods (fun k => k = gf) w6 W7 := by rw [← hW7]; exact (Mods.refl (fun k => k = gf) w6).setCell (p := ⟨gf, (n - 1) * 2 + 1, none⟩) (.inl rfl) _
  have n0 := m7.blk j0 (by have := HGG.out; have := HGF.out; omega)
  have n1 := m7.blk j1 (by have := HGG.out; have := HGF.out; omega)
  have n2 := m7.blk j2 (by have := HGG.out; have := HGF.out; omega)
  have n3 := m7.blk j3 (by have := HGG.out; have := HGF.out; omega)
  have n6 := m7.blk h6 (by omega)
  have nf : W7.heap[gf]? = some (.cells (fcs.toArray.setIfInBounds ((n - 1) * 2 + 1) (.slice (some ⟨g6, 0, none⟩) m c6)) 73 (0, 0)) := by rw [← hW7]; exact blk_set jf _ _
  have b25 : Below w2.heap.size w2 W7 := by rw [← hW7]; exact below_set hb26 (by have := HB5.out.size; omega)
  have z0 : W7.cell? ⟨gf, (n - 1) * 2 + 1, none⟩ = some (.slice (some ⟨g6, 0, none⟩) m c6) := (blk_cell nf _).trans (by rw [Array.getElem?_setIfInBounds, if_pos rfl, if_pos (by rw [List.size_toArray]; have := HFL.out.1; have := HFR.out.2; omega)])
  have z1 : W7.cell? ⟨ga, 1, none⟩ = some (.int .i64 (N : Int)) := (blk_cell n1 1).trans rfl
  obtain ⟨y0, y1, y2, y3, y4, y5⟩ := six_cells n2
  have HN0 := Aside0.mk n0
  have HN3 := Aside0.mk n3
  have HN6 := Aside0.mk n6
  have HNF := Aside0.mk nf
  have HB7 := Aside0.mk hB7
  have HB27 := Aside0.mk b25
  have HG6 := Aside0.mk (And.intro hne (And.intro hc6 hcur6))
  clear HCL hc6 hg6 h6 hcur6 hb6 hb26 j0 j1 j2 j3 jf t0 t1 t2 p96 k0 hmk hW4 hW5 hv0 n0 n1 n2 n3 n6 nf b25 hB7 m7
  go_wp2_with fail
  go_still_tail 8, (by kernel_rfl)
  change wpList _ _ _ _ _ W7.drew
  obtain ⟨W8, hW8⟩ : ∃ W8, W7.drew = W8 := ⟨_, rfl⟩
  rw [hW8]
  have hk6 : ∀ j, j < m * 6 → ∃ u, W8.cell? ⟨g6, j, none⟩ = some u := fun j hj => by
    obtain ⟨u, hu⟩ : ∃ u, tcs[j]? = some u := ⟨_, List.getElem?_eq_getElem (by have := HTL.out.1; omega)⟩
    exact ⟨u, by rw [← hW8]; exact (blk_cell HN6.out j).trans (HG6.out.2.2 j u hu)⟩
  have h68 : W8.heap[g6]? = some (.cells cur6 45 (0, 0)) := by rw [← hW8]; exact HN6.out
  obtain ⟨u0, p0⟩ := hk6 (N * 6) (by omega)
  obtain ⟨u1, p1⟩ := hk6 (N * 6 + 1) (by omega)
  obtain ⟨u2, p2⟩ := hk6 (N * 6 + 2) (by omega)
  obtain ⟨u3, p3⟩ := hk6 (N * 6 + 3) (by omega)
  obtain ⟨u4, p4⟩ := hk6 (N * 6 + 4) (by omega)
  obtain ⟨u5, p5⟩ := hk6 (N * 6 + 5) (by omega)
  have f0 := blk_frozen h68 (N * 6)
  have f1 := blk_frozen h68 (N * 6 + 1)
  have f2 := blk_frozen h68 (N * 6 + 2)
  have f3 := blk_frozen h68 (N * 6 + 3)
  have f4 := blk_frozen h68 (N * 6 + 4)
  have f5 := blk_frozen h68 (N * 6 + 5)
  obtain ⟨W9, hW9⟩ : ∃ W9, ((((((W8.setCell ⟨g6, N * 6, none⟩ (.int .i64 t.f0)).setCell ⟨g6, N * 6 + 1, none⟩ (.bool t.f1.f0)).setCell ⟨g6, N * 6 + 2, none⟩ (.slice A2 t.f1.f1.length c2)).setCell ⟨g6, N * 6 + 3, none⟩ (.string t.f2)).setCell ⟨g6, N * 6 + 4, none⟩ (.int .i64 t.f3)).setCell ⟨g6, N * 6 + 5, none⟩ (.slice A5 t.f4.length c5)) = W9 := ⟨_, rfl⟩
  have m9 : Mods (fun k => k = g6) W8 W9 := by rw [← hW9]; exact six_mods
  have i6 : W9.heap[g6]? = some (.cells (put6 cur6 N (.int .i64 t.f0) (.bool t.f1.f0) (.slice A2 t.f1.f1.length c2) (.string t.f2) (.int .i64 t.f3) (.slice A5 t.f4.length c5)) 45 (0, 0)) := by rw [← hW9]; exact six_at h68
  have i0 : W9.heap[g]? = some (.cells cs 70 (0, 0)) := m9.blk (by rw [← hW8]; exact HN0.out) (by have := HGG.out; have := HGF.out; have := HG6.out.1; omega)
  have i3 : W9.heap[gr]? = some (.cells Z 70 (0, 0)) := m9.blk (by rw [← hW8]; exact HN3.out) (by have := HGG.out; have := HGF.out; have := HG6.out.1; omega)
  have if_ : W9.heap[gf]? = some (.cells (fcs.toArray.setIfInBounds ((n - 1) * 2 + 1) (.slice (some ⟨g6, 0, none⟩) m c6)) 73 (0, 0)) := m9.blk (by rw [← hW8]; exact HNF.out) (by have := HG6.out.1; omega)
  have b8 : Below w.heap.size w W8 := by rw [← hW8]; exact below_drew HB7.out
  have b28 : Below w2.heap.size w2 W8 := by rw [← hW8]; exact below_drew HB27.out
  have b9 : Below w.heap.size w W9 := by rw [← hW9]; exact six_below b8 (by have := HGG.out; have := HGF.out; have := HG6.out.1; omega)
  have b29 : Below w2.heap.size w2 W9 := by rw [← hW9]; exact six_below b28 (by have := HG6.out.1; omega)
  have HI0 := Aside0.mk i0
  have HI3 := Aside0.mk i3
  have HI6 := Aside0.mk i6
  have HIF := Aside0.mk if_
  have HB9 := Aside0.mk b9
  have HB29 := Aside0.mk b29
  have r96 := (blk_cell i0 96).trans q96
  have r96f := blk_frozen i0 96
  obtain ⟨Wa, hWa⟩ : ∃ Wa, W9.setCell ⟨g, 96, none⟩ (.slice (some ⟨gf, 0, none⟩) n n) = Wa := ⟨_, rfl⟩
  obtain ⟨C1, hC1⟩ : ∃ C1, cs.setIfInBounds 96 (.slice (some ⟨gf, 0, none⟩) n n) = C1 := ⟨_, rfl⟩
  have ia : Wa.heap[g]? = some (.cells C1 70 (0, 0)) := by rw [← hWa, ← hC1]; exact blk_set i0 _ _
  have ma : Mods (fun k => k = g) W9 Wa := by rw [← hWa]; exact set96_mods
  have ib := ma.blk i3 (by have := HGG.out; omega)
  have HIA := Aside0.mk ia
  have HIB := Aside0.mk ib
  have HMA := Aside0.mk ma
  have HC1 := Aside0.mk hC1
  have HO1 := Aside0.mk (show One C1 by rw [← hC1]; exact One.set96 (rd_one HRd.out) rfl)
  have hs1 : C1.size = 101 := by rw [← hC1, Array.size_setIfInBounds]; exact HRd.out.1
  have HS1 := Aside0.mk (show (Try.prog.info? 70).map (·.size) = some C1.size by rw [hs1]; kernel_rfl)
  have HZ1 := Aside0.mk (show Z.size = C1.size by rw [hs1]; exact HZ.out)
  have H11 := Aside0.mk HO1.out.all
  clear hk6 h68 m9 i6 i0 i3 if_ b8 b28 b9 b29 hW8 ia ma ib hC1 hs1 z0 z1
  go_wp2_with (first
    | ((with_reducible refine wpList_load_row (o := ⟨some 87, _, _, _, _, _⟩) rfl 70 (.tmp 3) rfl g ?_ 70 C1 (0, 0) _ HIA.out hu70 rfl HS1.out ?_); rfl)
    | ((with_reducible refine wpList_store_row (o := ⟨none, _, _, _, _, _⟩) rfl 70 (.tmp 6) (.tmp 87) rfl gr C1 ?_ ?_ 70 Z HIB.out HS1.out HZ1.out H11.out ?_); rfl; rfl))
  obtain ⟨Wb, hWb⟩ : ∃ Wb, Wa.setRow gr C1 = Wb := ⟨_, rfl⟩
  have mb : Mods (fun k => k = gr) Wa Wb := by rw [← hWb]; exact setRow_mods Wa gr C1
  have hrb : Wb.heap[gr]? = some (.cells C1 70 (0, 0)) := by rw [← hWb]; exact setRow_heap Wa gr _ _ _ _ HIB.out
  have hba : Below w.heap.size w Wa := by rw [← hWa]; exact below_set HB9.out (by have := HGG.out; omega)
  have hbb : Below w.heap.size w Wb := by rw [← hWb]; exact below_setRow hba (by have := HGG.out; omega) _
  have hk6 : Wb.heap[g6]? = _ := mb.blk (HMA.out.blk HI6.out (by have := HGG.out; have := HGF.out; have := HG6.out.1; omega)) (by have := HGG.out; have := HGF.out; have := HG6.out.1; omega)
  have hkf : Wb.heap[gf]? = _ := mb.blk (HMA.out.blk HIF.out (by have := HGG.out; have := HGF.out; omega)) (by have := HGG.out; have := HGF.out; omega)
  have hl9 := HT.out.below hbb
  have hterms := row_put HCw.out hbb HTL.out.1 HTL.out.2.1 HG6.out.2.2 hN hl9 hk6
  have hlen : ((slotsOf r).set N t).length = m := by rw [List.length_set]; exact HNM.out.1
  have hfrm := frames_put (l := n - 1) (ys := (slotsOf r).set N t) (Y := some ⟨g6, 0, none⟩) (c := c6) HFw.out hbb HFL.out.1 HFL.out.2.1 (by have := HFR.out.2; omega) (by rw [hlen]; exact hterms) (by rw [hlen]; exact HG6.out.2.1) (by rw [hlen]; exact hkf)
  have hn2 := HNM.out.2.1
  have hRd : Rd Wb C1 (setY r N t) := by
    obtain ⟨x1, x2, x3, x4, x5, x6, x7, x8⟩ := HRd.out
    have hcc := HC1.out
    have hat : ∀ k, k ≠ 96 → C1[k]? = cs[k]? := fun k hk => by rw [← hcc, Array.getElem?_setIfInBounds, if_neg (Ne.symm hk)]
    refine ⟨by rw [← hcc, Array.size_setIfInBounds]; exact x1, x2, fun i hi => ?_, ⟨some ⟨gf, 0, none⟩, n, ?_, ?_, ?_⟩, ?_, ?_, ?_, ?_⟩
    · obtain ⟨B2, d2, B5, d5, y1, y2⟩ := x3 i hi
      exact ⟨B2, d2, B5, d5, y1.below hbb, fun j hj => by rw [hat _ (by omega)]; exact y2 j hj⟩
    · rw [← hcc, Array.getElem?_setIfInBounds, if_pos rfl, if_pos (by omega)]
      unfold setY
      rw [List.length_set, hn2]
    · unfold setY
      rw [List.length_set, hn2]
      exact Nat.le_refl _
    · unfold setY
      rw [List.length_set, hn2]
      exact hfrm
    · rw [hat _ (by omega)]; exact x5
    · rw [hat _ (by omega)]; exact x6
    · rw [hat _ (by omega)]; exact x7
    · rw [hat _ (by omega)]; exact x8
  rw [hWb]
  refine bodyPost_ret (results_ct rfl _ _ gr 70 C1 (0, 0) _ rfl hrb Try.underlying70 rfl HS1.out) rfl ?_
  exact ⟨C1, rfl, hRd, hbb⟩
end Go.Proofs.YthdmacdeefohkaaPy
namespace Go.Proofs.YthdmacdeefohkaaRp3
open Go.RowKit Go.Proofs.YthdmacdeefohkaaW.PrintWords Go.Proofs.YthdmacdeefohkaaW.PrintLast Go.Proofs.YthdmacdeefohkaaW.PrintMore Go.Proofs.YthdmacdeefohkaaMem Go.Proofs.YthdmacdeefohkaaLeaf Go.Proofs.YthdmacdeefohkaaBits Go.Proofs.Ythdmacdeefohkaa.PMa Go.Proofs.YthdmacdeefohkaaMTerm Go.Proofs.YthdmacdeefohkaaMVal Go.Proofs.YthdmacdeefohkaaCopyK Go.Proofs.YthdmacdeefohkaaTc Go.Proofs.YthdmacdeefohkaaRv Go.Proofs.YthdmacdeefohkaaOf Go.Proofs.YthdmacdeefohkaaPt Go.Proofs.YthdmacdeefohkaaRegs Go.Proofs.YthdmacdeefohkaaPx Go.Proofs.YthdmacdeefohkaaArgs Go.Proofs
set_option linter.unusedVariables false
set_option linter.unusedSimpArgs false
section
variable {P : Program}
theorem exec_store_row {o : Oper} {a : Act} {w : World} (ty : TypeId) (x y : Operand) (ho : o.op = .store ty x y) (g : Nat) (cells : Array Value) (hx : a.eval x = .pointer (some ⟨g, 0, none⟩)) (hy : a.eval y = .agg cells)
    (t : TypeId) (old : Array Value) (hg : w.heap[g]? = some (.cells old t (0, 0))) (hi : (P.info? ty).map (·.size) = some cells.size) (hold : old.size = cells.size) (h1 : cells.all (·.oneCell') = true) :
    (execOp a.eval o).run P w = .ok .skip (w.setRow g cells) := by
  unfold execOp
  simp only [ho, hx, hy, Instr.storeAt, Instr.sureAddr, Sem.run_bind, Sem.run_pure, Result.andThen_ok, run_storeVar_row w g t ty old cells hg hi hold h1]
end
def Ze (W : World) (g : Nat) : Prop := W.heap[g]? = some (.cells Try.zeroCells70 70 (0, 0))
theorem Ze.below {W W1 : World} {g : Nat} (h : Ze W g) (hb : Below W.heap.size W W1) : Ze W1 g := (hb.block _ (blk_lt h)).trans h
abbrev RegAt (W : World) (g : Nat) (C : Array Value) : Prop := W.heap[g]? = some (.cells C 70 (0, 0))
theorem RegAt.below {W W1 : World} {g : Nat} {C : Array Value} (h : RegAt W g C) (hb : Below W.heap.size W W1) : RegAt W1 g C := (hb.block _ (blk_lt h)).trans h

def T3 : Bool × List (List Nat × List Nat) := (true, [([], []), ([0], [0]), ([], []), ([2, 1], [2]), ([], []), ([], []), ([4, 1, 3, 0, 1, 4, 5], [1, 4]), ([5, 3, 6, 0, 1, 2, 3, 4, 5, 6], [3, 5])])
def B3 : List Nat := [0, 1, 0, 7, 0, 0, 63, 127]
def O3 : Array Oper := #[{ dst := some 29, op := Op.load 92 (Operand.tmp 3), type := 92, pos := "law.go:91", after := #[], guard := none }, { dst := some 30, op := Op.call { callee := Callee.value (Operand.func 69), args := #[Operand.tmp 29], argTypes := #[92] }, type := 70, pos := "law.go:91", after := #[{ on := 0, ground := Ground.data }], guard := none }, { dst := some 31, op := Op.load 92 (Operand.tmp 3), type := 92, pos := "law.go:91", after := #[], guard := none }, { dst := some 32, op := Op.call { callee := Callee.value (Operand.func 69), args := #[Operand.tmp 31], argTypes := #[92] }, type := 70, pos := "law.go:91", after := #[{ on := 2, ground := Ground.data }, { on := 1, ground := Ground.chain }], guard := none }, { dst := some 7, op := Op.alloc 70, type := 0, pos := "law.go:91", after := #[], guard := none }, { dst := some 8, op := Op.alloc 70, type := 0, pos := "law.go:91", after := #[], guard := none }, { dst := none, op := Op.store 70 (Operand.tmp 7) (Operand.tmp 30), type := 0, pos := "law.go:91", after := #[{ on := 4, ground := Ground.data }, { on := 1, ground := Ground.data }, { on := 3, ground := Ground.chain }, { on := 0, ground := Ground.phase }, { on := 1, ground := Ground.phase }, { on := 2, ground := Ground.textOnly Departure.lateStores }, { on := 3, ground := Ground.textOnly Departure.lateStoresUnsure }, { on := 4, ground := Ground.phase }, { on := 5, ground := Ground.phase }], guard := none }, { dst := none, op := Op.store 70 (Operand.tmp 8) (Operand.tmp 32), type := 0, pos := "law.go:91", after := #[{ on := 5, ground := Ground.data }, { on := 3, ground := Ground.data }, { on := 6, ground := Ground.chain }, { on := 0, ground := Ground.phase }, { on := 1, ground := Ground.phase }, { on := 2, ground := Ground.phase }, { on := 3, ground := Ground.phase }, { on := 4, ground := Ground.phase }, { on := 5, ground := Ground.phase }, { on := 6, ground := Ground.phase }], guard := none }]
theorem tab3 : rtab .any O3 = T3 := by kernel_rfl
theorem bits3 : waitsOk T3.2 B3 = true := by kernel_rfl
set_option maxHeartbeats 16000000 in
set_option maxRecDepth 100000 in
theorem reg3 {u0 u1 u2 u3 u4 u5 u6 u7 u8 u9 u10 u11 u12 u13 u14 u15 u16 u17 u18 u19 u20 u21 u22 u23 u24 u25 u26 u27 u28 u29 u30 u31 u32 u33 u34 u35 u36 u37 u38 u39 u40 u41 u42 u43 u44 u45 u46 u47 u48 u49 u50 u51 u52 u53 u54 u55 u56 u57 u58 u59 u60 u61 u62 u63 u64 u65 u66 u67 u68 u69 u70 u71 u72 u73 u74 u75 u76 u77 u78 u79 u80 u81 u82 u83 u84 u85 u86 u87 u88 u89 u90 u91 u92 u93 u94 u95 u96 u97 u98 u99 u100 u101 u102 u103 u104 u105 u106 u107 u108 u109 u110 u111 u112 u113 u114 u115 u116 u117 u118 u119 u120 u121 u122 u123 u124 u125 u126 u127 u128 u129 u130 u131 u132 : Value} {Q : Exit → Act → World → Prop} (hP : ∀ c (a : Act) d v w, Q (.panic c) (a.put d v) w → Q (.panic c) a w) {Y : World} {gx : Nat} {cs : Array Value} {r : RV} (hx : Y.heap[gx]? = some (.cells cs 92 (0, 0))) (hsz : cs.size = 101)
    (h1 : ∀ W, Below Y.heap.size Y W → Calls Try.prog 69 #[.agg cs] W (OfPost r W))
    (hQ : ∀ ga gb C1 C2 W1, Below Y.heap.size Y W1 → Y.heap.size ≤ ga → Y.heap.size ≤ gb → RegAt W1 ga C1 → RegAt W1 gb C2 → Stay W1 C1 r → Stay W1 C2 r → Q .normal ⟨#[u0, u1, u2, .pointer (some ⟨gx, 0, none⟩), u4, u5, u6, .pointer (some ⟨ga, 0, none⟩), .pointer (some ⟨gb, 0, none⟩), u9, u10, u11, u12, u13, u14, u15, u16, u17, u18, u19, u20, u21, u22, u23, u24, u25, u26, u27, u28, .agg cs, .agg C1, .agg cs, .agg C2, u33, u34, u35, u36, u37, u38, u39, u40, u41, u42, u43, u44, u45, u46, u47, u48, u49, u50, u51, u52, u53, u54, u55, u56, u57, u58, u59, u60, u61, u62, u63, u64, u65, u66, u67, u68, u69, u70, u71, u72, u73, u74, u75, u76, u77, u78, u79, u80, u81, u82, u83, u84, u85, u86, u87, u88, u89, u90, u91, u92, u93, u94, u95, u96, u97, u98, u99, u100, u101, u102, u103, u104, u105, u106, u107, u108, u109, u110, u111, u112, u113, u114, u115, u116, u117, u118, u119, u120, u121, u122, u123, u124, u125, u126, u127, u128, u129, u130, u131, u132], []⟩ W1) :
    (Code.region 3 O3 true).wp Try.prog Q ⟨#[u0, u1, u2, .pointer (some ⟨gx, 0, none⟩), u4, u5, u6, u7, u8, u9, u10, u11, u12, u13, u14, u15, u16, u17, u18, u19, u20, u21, u22, u23, u24, u25, u26, u27, u28, u29, u30, u31, u32, u33, u34, u35, u36, u37, u38, u39, u40, u41, u42, u43, u44, u45, u46, u47, u48, u49, u50, u51, u52, u53, u54, u55, u56, u57, u58, u59, u60, u61, u62, u63, u64, u65, u66, u67, u68, u69, u70, u71, u72, u73, u74, u75, u76, u77, u78, u79, u80, u81, u82, u83, u84, u85, u86, u87, u88, u89, u90, u91, u92, u93, u94, u95, u96, u97, u98, u99, u100, u101, u102, u103, u104, u105, u106, u107, u108, u109, u110, u111, u112, u113, u114, u115, u116, u117, u118, u119, u120, u121, u122, u123, u124, u125, u126, u127, u128, u129, u130, u131, u132], []⟩ Y := by
  unfold O3
  have hu70 := Try.underlying70
  have hu92 := Try.underlying92
  have HX := Aside0.mk hx
  have H1 := Aside0.mk h1
  have HQ := Aside0.mk hQ
  have HP := Aside0.mk hP
  have HSZ := Aside0.mk (show (Try.prog.info? 92).map (·.size) = some cs.size by rw [hsz]; kernel_rfl)
  have HZZ := Aside0.mk (show Try.zeroCells70.size = 101 from rfl)
  clear hx h1 hQ hP
  have HBB := Aside0.mk (below_drew (Below.refl Y.heap.size Y))
  refine start_ (n := 8) (S := fun w' => Below Y.heap.size Y w') (ds := []) #[false, false, false, false, false, false, false, false] (by kernel_rfl) rfl rfl HBB.out (fun hHeld => ?_); refine with_tabW tab3 bits3 (fun HT_ HW_ => ?_)
  generalize Y.drew = wd at HBB hHeld ⊢
  refine take_ (i := 0) (N := (some 29)) (v := (.agg cs)) (a' := ?_) #[true, false, false, false, false, false, false, false] rfl rfl (take_ofW HT_.out HW_.out (by kernel_rfl)) (fun _ _ _ h => HP.out _ _ _ _ _ h) (Or.inl ⟨by rfl, ?_⟩) hHeld ?_ ?_
  · (intro w' hs; exact exec_load_row 92 (.tmp 3) rfl gx (by rfl) 92 cs (0, 0) _ ((hs.block _ (blk_lt HX.out)).trans HX.out) hu92 rfl HSZ.out)
  rotate_left; (simp only [Act.put, List.setIfInBounds_toArray, List.set_cons_zero, List.set_cons_succ, i64_w, i32_w]; rfl)
  refine take_ (i := 2) (N := (some 31)) (v := (.agg cs)) (a' := ?_) #[true, false, true, false, false, false, false, false] rfl rfl (take_ofW HT_.out HW_.out (by kernel_rfl)) (fun _ _ _ h => HP.out _ _ _ _ _ h) (Or.inl ⟨by rfl, ?_⟩) hHeld ?_ ?_
  · (intro w' hs; exact exec_load_row 92 (.tmp 3) rfl gx (by rfl) 92 cs (0, 0) _ ((hs.block _ (blk_lt HX.out)).trans HX.out) hu92 rfl HSZ.out)
  rotate_left; (simp only [Act.put, List.setIfInBounds_toArray, List.set_cons_zero, List.set_cons_succ, i64_w, i32_w]; rfl)
  refine join_ (σ := Nat × Nat × Array Value × Array Value) 2 #[true, true, true, true, true, true, false, false] (fun s => [(30, .agg s.2.2.1), (32, .agg s.2.2.2), (7, .pointer (some ⟨s.1, 0, none⟩)), (8, .pointer (some ⟨s.2.1, 0, none⟩))]) (fun s w' => Below Y.heap.size Y w' ∧ (Ze w' s.1 ∧ Y.heap.size ≤ s.1) ∧ (Ze w' s.2.1 ∧ Y.heap.size ≤ s.2.1) ∧ s.1 ≠ s.2.1 ∧ Stay w' s.2.2.1 r ∧ Stay w' s.2.2.2 r) ?_ ?_
  rotate_left
  · intro hJ1345
    refine join_ (σ := Nat × Nat × Array Value × Array Value) 3 #[true, true, true, true, true, false, false, false] (fun s => [(30, .agg s.2.2.1), (32, .agg s.2.2.2), (7, .pointer (some ⟨s.1, 0, none⟩))]) (fun s w' => Below Y.heap.size Y w' ∧ (Ze w' s.1 ∧ Y.heap.size ≤ s.1) ∧ True ∧ True ∧ Stay w' s.2.2.1 r ∧ Stay w' s.2.2.2 r) ?_ ?_
    rotate_left
    · intro hJ134
      refine join_ (σ := Nat × Nat × Array Value × Array Value) 3 #[true, true, true, true, false, true, false, false] (fun s => [(30, .agg s.2.2.1), (32, .agg s.2.2.2), (8, .pointer (some ⟨s.2.1, 0, none⟩))]) (fun s w' => Below Y.heap.size Y w' ∧ True ∧ (Ze w' s.2.1 ∧ Y.heap.size ≤ s.2.1) ∧ True ∧ Stay w' s.2.2.1 r ∧ Stay w' s.2.2.2 r) ?_ ?_
      rotate_left
      · intro hJ135
        refine join_ (σ := Nat × Nat × Array Value × Array Value) 3 #[true, true, true, false, true, true, false, false] (fun s => [(30, .agg s.2.2.1), (7, .pointer (some ⟨s.1, 0, none⟩)), (8, .pointer (some ⟨s.2.1, 0, none⟩))]) (fun s w' => Below Y.heap.size Y w' ∧ (Ze w' s.1 ∧ Y.heap.size ≤ s.1) ∧ (Ze w' s.2.1 ∧ Y.heap.size ≤ s.2.1) ∧ s.1 ≠ s.2.1 ∧ Stay w' s.2.2.1 r ∧ True) ?_ ?_
        rotate_left
        · intro hJ145
          refine join_ (σ := Nat × Nat × Array Value × Array Value) 4 #[true, true, true, true, false, false, false, false] (fun s => [(30, .agg s.2.2.1), (32, .agg s.2.2.2)]) (fun s w' => Below Y.heap.size Y w' ∧ True ∧ True ∧ True ∧ Stay w' s.2.2.1 r ∧ Stay w' s.2.2.2 r) ?_ ?_
          rotate_left
          · intro hJ13
            refine join_ (σ := Nat × Nat × Array Value × Array Value) 4 #[true, true, true, false, true, false, false, false] (fun s => [(30, .agg s.2.2.1), (7, .pointer (some ⟨s.1, 0, none⟩))]) (fun s w' => Below Y.heap.size Y w' ∧ (Ze w' s.1 ∧ Y.heap.size ≤ s.1) ∧ True ∧ True ∧ Stay w' s.2.2.1 r ∧ True) ?_ ?_
            rotate_left
            · intro hJ14
              refine join_ (σ := Nat × Nat × Array Value × Array Value) 4 #[true, true, true, false, false, true, false, false] (fun s => [(30, .agg s.2.2.1), (8, .pointer (some ⟨s.2.1, 0, none⟩))]) (fun s w' => Below Y.heap.size Y w' ∧ True ∧ (Ze w' s.2.1 ∧ Y.heap.size ≤ s.2.1) ∧ True ∧ Stay w' s.2.2.1 r ∧ True) ?_ ?_
              rotate_left
              · intro hJ15
                refine join_ (σ := Nat × Nat × Array Value × Array Value) 4 #[true, false, true, false, true, true, false, false] (fun s => [(7, .pointer (some ⟨s.1, 0, none⟩)), (8, .pointer (some ⟨s.2.1, 0, none⟩))]) (fun s w' => Below Y.heap.size Y w' ∧ (Ze w' s.1 ∧ Y.heap.size ≤ s.1) ∧ (Ze w' s.2.1 ∧ Y.heap.size ≤ s.2.1) ∧ s.1 ≠ s.2.1 ∧ True ∧ True) ?_ ?_
                rotate_left
                · intro hJ45
                  refine join_ (σ := Nat × Nat × Array Value × Array Value) 5 #[true, true, true, false, false, false, false, false] (fun s => [(30, .agg s.2.2.1)]) (fun s w' => Below Y.heap.size Y w' ∧ True ∧ True ∧ True ∧ Stay w' s.2.2.1 r ∧ True) ?_ ?_
                  rotate_left
                  · intro hJ1
                    refine join_ (σ := Nat × Nat × Array Value × Array Value) 5 #[true, false, true, false, true, false, false, false] (fun s => [(7, .pointer (some ⟨s.1, 0, none⟩))]) (fun s w' => Below Y.heap.size Y w' ∧ (Ze w' s.1 ∧ Y.heap.size ≤ s.1) ∧ True ∧ True ∧ True ∧ True) ?_ ?_
                    rotate_left
                    · intro hJ4
                      refine join_ (σ := Nat × Nat × Array Value × Array Value) 5 #[true, false, true, false, false, true, false, false] (fun s => [(8, .pointer (some ⟨s.2.1, 0, none⟩))]) (fun s w' => Below Y.heap.size Y w' ∧ True ∧ (Ze w' s.2.1 ∧ Y.heap.size ≤ s.2.1) ∧ True ∧ True ∧ True) ?_ ?_
                      rotate_left
                      · intro hJ5
                        refine three_ (i := 1) (j := 4) (k := 5) (Ni := (some 30)) (Nj := (some 7)) (Nk := (some 8)) #[true, true, true, false, false, false, false, false] #[true, false, true, false, true, false, false, false] #[true, false, true, false, false, true, false, false] rfl rfl rfl rfl rfl rfl (three_of HT_.out (by kernel_rfl)) (by decide) (by decide) (by decide) (fun K hK => ?_) (fun K hK => ?_) (fun K hK => ?_)
                        · skip
                          refine goes_ Try.func69 (by kernel_rfl) rfl #[.agg cs] (by rfl) rfl rfl (by (try simp only [List.map_toArray, List.map_cons, List.map_nil]); first | done | rfl) ?_
                          refine (H1.out _ HBB.out).mono ?_
                          rintro e wn ⟨C1, rfl, hr, hb⟩
                          refine ⟨_, rfl, ?_⟩
                          have HR1 := Aside0.mk hr
                          clear hr
                          have n0_ := Aside0.mk (below_step HBB.out hb)
                          clear HBB hHeld hb
                          have HBB := n0_
                          clear n0_
                          refine hK.out _ _ HBB.out (fun hHeld => ?_)
                          clear hK K
                          refine norm_ (a' := ?_) ?_ ?_
                          rotate_left
                          · show Act.put _ (some 30) _ = _
                            simp only [Act.put, List.setIfInBounds_toArray, List.set_cons_zero, List.set_cons_succ, i64_w, i32_w]
                            rfl
                          have hj := hJ1 (0, 0, C1, #[]) _ ⟨HBB.out, trivial, trivial, trivial, HR1.out, trivial⟩
                          refine norm_ ?_ hj
                          rfl
                        · skip
                          refine box_step ?hg (N := 7) ?hd (cs := Try.zeroCells70) (t := 70) ?hr ?_; (case hd => rfl); (case hg => rfl); (case hr => first | (go_simp; done) | (go_simp; rfl))
                          intro g4 hg wn hbox hb
                          have n0_ := Aside0.mk (below_step HBB.out hb)
                          have HBOX := Aside0.mk hbox
                          have HGE := Aside0.mk (show Y.heap.size ≤ g4 by rw [hg]; exact HBB.out.size)
                          clear HBB hHeld hb hbox hg
                          have HBB := n0_
                          clear n0_
                          refine hK.out _ _ HBB.out (fun hHeld => ?_)
                          clear hK K
                          refine norm_ (a' := ?_) ?_ ?_
                          rotate_left
                          · show Act.put _ (some 7) _ = _
                            simp only [Act.put, List.setIfInBounds_toArray, List.set_cons_zero, List.set_cons_succ, i64_w, i32_w]
                            rfl
                          have HZ4 := Aside0.mk (show Ze _ g4 from HBOX.out)
                          have HG4 := HGE
                          clear HBOX HGE
                          have hj := hJ4 (g4, 0, #[], #[]) _ ⟨HBB.out, ⟨HZ4.out, HG4.out⟩, trivial, trivial, trivial, trivial⟩
                          refine norm_ ?_ hj
                          rfl
                        · skip
                          refine box_step ?hg (N := 8) ?hd (cs := Try.zeroCells70) (t := 70) ?hr ?_; (case hd => rfl); (case hg => rfl); (case hr => first | (go_simp; done) | (go_simp; rfl))
                          intro g5 hg wn hbox hb
                          have n0_ := Aside0.mk (below_step HBB.out hb)
                          have HBOX := Aside0.mk hbox
                          have HGE := Aside0.mk (show Y.heap.size ≤ g5 by rw [hg]; exact HBB.out.size)
                          clear HBB hHeld hb hbox hg
                          have HBB := n0_
                          clear n0_
                          refine hK.out _ _ HBB.out (fun hHeld => ?_)
                          clear hK K
                          refine norm_ (a' := ?_) ?_ ?_
                          rotate_left
                          · show Act.put _ (some 8) _ = _
                            simp only [Act.put, List.setIfInBounds_toArray, List.set_cons_zero, List.set_cons_succ, i64_w, i32_w]
                            rfl
                          have HZ5 := Aside0.mk (show Ze _ g5 from HBOX.out)
                          have HG5 := HGE
                          clear HBOX HGE
                          have hj := hJ5 (0, g5, #[], #[]) _ ⟨HBB.out, trivial, ⟨HZ5.out, HG5.out⟩, trivial, trivial, trivial⟩
                          refine norm_ ?_ hj
                          rfl
                      · skip
                        rintro ⟨g4, g5, C1, C2⟩ wj ⟨hbj, h4j, h5j, hnj, r1j, r3j⟩
                        refine norm_ (a' := ?_) ?_ ?_
                        rotate_left
                        · show putAll _ _ = _
                          simp only [putAll, Act.put, List.setIfInBounds_toArray, List.set_cons_zero, List.set_cons_succ]
                          rfl
                        have HBB := Aside0.mk hbj
                        have hHeld := hbj
                        have HZ5 := Aside0.mk (show Ze wj g5 from h5j.1)
                        have HG5 := Aside0.mk (show Y.heap.size ≤ g5 from h5j.2)
                        clear hbj h4j h5j hnj r1j r3j
                        refine two_ (i := 1) (j := 4) (Ni := (some 30)) (Nj := (some 7)) #[true, true, true, false, false, true, false, false] #[true, false, true, false, true, true, false, false] rfl rfl rfl rfl (two_of HT_.out (by kernel_rfl)) (by decide) (by decide) (fun K hK => ?_) (fun K hK => ?_)
                        · skip
                          refine goes_ Try.func69 (by kernel_rfl) rfl #[.agg cs] (by rfl) rfl rfl (by (try simp only [List.map_toArray, List.map_cons, List.map_nil]); first | done | rfl) ?_
                          refine (H1.out _ HBB.out).mono ?_
                          rintro e wn ⟨C1, rfl, hr, hb⟩
                          refine ⟨_, rfl, ?_⟩
                          have HZ5 := Aside0.mk (HZ5.out.below hb)
                          have HR1 := Aside0.mk hr
                          clear hr
                          have n0_ := Aside0.mk (below_step HBB.out hb)
                          clear HBB hHeld hb
                          have HBB := n0_
                          clear n0_
                          refine hK.out _ _ HBB.out (fun hHeld => ?_)
                          clear hK K
                          refine norm_ (a' := ?_) ?_ ?_
                          rotate_left
                          · show Act.put _ (some 30) _ = _
                            simp only [Act.put, List.setIfInBounds_toArray, List.set_cons_zero, List.set_cons_succ, i64_w, i32_w]
                            rfl
                          have hj := hJ15 (0, g5, C1, #[]) _ ⟨HBB.out, trivial, ⟨HZ5.out, HG5.out⟩, trivial, HR1.out, trivial⟩
                          refine norm_ ?_ hj
                          rfl
                        · skip
                          refine box_step ?hg (N := 7) ?hd (cs := Try.zeroCells70) (t := 70) ?hr ?_; (case hd => rfl); (case hg => rfl); (case hr => first | (go_simp; done) | (go_simp; rfl))
                          intro g4 hg wn hbox hb
                          have HNE := Aside0.mk (show g4 ≠ g5 from fun e => by have := blk_lt HZ5.out; omega)
                          have HZ5 := Aside0.mk (HZ5.out.below hb)
                          have n0_ := Aside0.mk (below_step HBB.out hb)
                          have HBOX := Aside0.mk hbox
                          have HGE := Aside0.mk (show Y.heap.size ≤ g4 by rw [hg]; exact HBB.out.size)
                          clear HBB hHeld hb hbox hg
                          have HBB := n0_
                          clear n0_
                          refine hK.out _ _ HBB.out (fun hHeld => ?_)
                          clear hK K
                          refine norm_ (a' := ?_) ?_ ?_
                          rotate_left
                          · show Act.put _ (some 7) _ = _
                            simp only [Act.put, List.setIfInBounds_toArray, List.set_cons_zero, List.set_cons_succ, i64_w, i32_w]
                            rfl
                          have HZ4 := Aside0.mk (show Ze _ g4 from HBOX.out)
                          have HG4 := HGE
                          clear HBOX HGE
                          have hj := hJ45 (g4, g5, #[], #[]) _ ⟨HBB.out, ⟨HZ4.out, HG4.out⟩, ⟨HZ5.out, HG5.out⟩, HNE.out, trivial, trivial⟩
                          refine norm_ ?_ hj
                          rfl
                    · skip
                      rintro ⟨g4, g5, C1, C2⟩ wj ⟨hbj, h4j, h5j, hnj, r1j, r3j⟩
                      refine norm_ (a' := ?_) ?_ ?_
                      rotate_left
                      · show putAll _ _ = _
                        simp only [putAll, Act.put, List.setIfInBounds_toArray, List.set_cons_zero, List.set_cons_succ]
                        rfl
                      have HBB := Aside0.mk hbj
                      have hHeld := hbj
                      have HZ4 := Aside0.mk (show Ze wj g4 from h4j.1)
                      have HG4 := Aside0.mk (show Y.heap.size ≤ g4 from h4j.2)
                      clear hbj h4j h5j hnj r1j r3j
                      refine two_ (i := 1) (j := 5) (Ni := (some 30)) (Nj := (some 8)) #[true, true, true, false, true, false, false, false] #[true, false, true, false, true, true, false, false] rfl rfl rfl rfl (two_of HT_.out (by kernel_rfl)) (by decide) (by decide) (fun K hK => ?_) (fun K hK => ?_)
                      · skip
                        refine goes_ Try.func69 (by kernel_rfl) rfl #[.agg cs] (by rfl) rfl rfl (by (try simp only [List.map_toArray, List.map_cons, List.map_nil]); first | done | rfl) ?_
                        refine (H1.out _ HBB.out).mono ?_
                        rintro e wn ⟨C1, rfl, hr, hb⟩
                        refine ⟨_, rfl, ?_⟩
                        have HZ4 := Aside0.mk (HZ4.out.below hb)
                        have HR1 := Aside0.mk hr
                        clear hr
                        have n0_ := Aside0.mk (below_step HBB.out hb)
                        clear HBB hHeld hb
                        have HBB := n0_
                        clear n0_
                        refine hK.out _ _ HBB.out (fun hHeld => ?_)
                        clear hK K
                        refine norm_ (a' := ?_) ?_ ?_
                        rotate_left
                        · show Act.put _ (some 30) _ = _
                          simp only [Act.put, List.setIfInBounds_toArray, List.set_cons_zero, List.set_cons_succ, i64_w, i32_w]
                          rfl
                        have hj := hJ14 (g4, 0, C1, #[]) _ ⟨HBB.out, ⟨HZ4.out, HG4.out⟩, trivial, trivial, HR1.out, trivial⟩
                        refine norm_ ?_ hj
                        rfl
                      · skip
                        refine box_step ?hg (N := 8) ?hd (cs := Try.zeroCells70) (t := 70) ?hr ?_; (case hd => rfl); (case hg => rfl); (case hr => first | (go_simp; done) | (go_simp; rfl))
                        intro g5 hg wn hbox hb
                        have HNE := Aside0.mk (show g4 ≠ g5 from fun e => by have := blk_lt HZ4.out; omega)
                        have HZ4 := Aside0.mk (HZ4.out.below hb)
                        have n0_ := Aside0.mk (below_step HBB.out hb)
                        have HBOX := Aside0.mk hbox
                        have HGE := Aside0.mk (show Y.heap.size ≤ g5 by rw [hg]; exact HBB.out.size)
                        clear HBB hHeld hb hbox hg
                        have HBB := n0_
                        clear n0_
                        refine hK.out _ _ HBB.out (fun hHeld => ?_)
                        clear hK K
                        refine norm_ (a' := ?_) ?_ ?_
                        rotate_left
                        · show Act.put _ (some 8) _ = _
                          simp only [Act.put, List.setIfInBounds_toArray, List.set_cons_zero, List.set_cons_succ, i64_w, i32_w]
                          rfl
                        have HZ5 := Aside0.mk (show Ze _ g5 from HBOX.out)
                        have HG5 := HGE
                        clear HBOX HGE
                        have hj := hJ45 (g4, g5, #[], #[]) _ ⟨HBB.out, ⟨HZ4.out, HG4.out⟩, ⟨HZ5.out, HG5.out⟩, HNE.out, trivial, trivial⟩
                        refine norm_ ?_ hj
                        rfl
                  · skip
                    rintro ⟨g4, g5, C1, C2⟩ wj ⟨hbj, h4j, h5j, hnj, r1j, r3j⟩
                    refine norm_ (a' := ?_) ?_ ?_
                    rotate_left
                    · show putAll _ _ = _
                      simp only [putAll, Act.put, List.setIfInBounds_toArray, List.set_cons_zero, List.set_cons_succ]
                      rfl
                    have HBB := Aside0.mk hbj
                    have hHeld := hbj
                    have HR1 := Aside0.mk r1j
                    clear hbj h4j h5j hnj r1j r3j
                    refine three_ (i := 3) (j := 4) (k := 5) (Ni := (some 32)) (Nj := (some 7)) (Nk := (some 8)) #[true, true, true, true, false, false, false, false] #[true, true, true, false, true, false, false, false] #[true, true, true, false, false, true, false, false] rfl rfl rfl rfl rfl rfl (three_of HT_.out (by kernel_rfl)) (by decide) (by decide) (by decide) (fun K hK => ?_) (fun K hK => ?_) (fun K hK => ?_)
                    · skip
                      refine goes_ Try.func69 (by kernel_rfl) rfl #[.agg cs] (by rfl) rfl rfl (by (try simp only [List.map_toArray, List.map_cons, List.map_nil]); first | done | rfl) ?_
                      refine (H1.out _ HBB.out).mono ?_
                      rintro e wn ⟨C2, rfl, hr, hb⟩
                      refine ⟨_, rfl, ?_⟩
                      have HR1 := Aside0.mk (HR1.out.below hb)
                      have HR3 := Aside0.mk hr
                      clear hr
                      have n0_ := Aside0.mk (below_step HBB.out hb)
                      clear HBB hHeld hb
                      have HBB := n0_
                      clear n0_
                      refine hK.out _ _ HBB.out (fun hHeld => ?_)
                      clear hK K
                      refine norm_ (a' := ?_) ?_ ?_
                      rotate_left
                      · show Act.put _ (some 32) _ = _
                        simp only [Act.put, List.setIfInBounds_toArray, List.set_cons_zero, List.set_cons_succ, i64_w, i32_w]
                        rfl
                      have hj := hJ13 (0, 0, C1, C2) _ ⟨HBB.out, trivial, trivial, trivial, HR1.out, HR3.out⟩
                      refine norm_ ?_ hj
                      rfl
                    · skip
                      refine box_step ?hg (N := 7) ?hd (cs := Try.zeroCells70) (t := 70) ?hr ?_; (case hd => rfl); (case hg => rfl); (case hr => first | (go_simp; done) | (go_simp; rfl))
                      intro g4 hg wn hbox hb
                      have HR1 := Aside0.mk (HR1.out.below hb)
                      have n0_ := Aside0.mk (below_step HBB.out hb)
                      have HBOX := Aside0.mk hbox
                      have HGE := Aside0.mk (show Y.heap.size ≤ g4 by rw [hg]; exact HBB.out.size)
                      clear HBB hHeld hb hbox hg
                      have HBB := n0_
                      clear n0_
                      refine hK.out _ _ HBB.out (fun hHeld => ?_)
                      clear hK K
                      refine norm_ (a' := ?_) ?_ ?_
                      rotate_left
                      · show Act.put _ (some 7) _ = _
                        simp only [Act.put, List.setIfInBounds_toArray, List.set_cons_zero, List.set_cons_succ, i64_w, i32_w]
                        rfl
                      have HZ4 := Aside0.mk (show Ze _ g4 from HBOX.out)
                      have HG4 := HGE
                      clear HBOX HGE
                      have hj := hJ14 (g4, 0, C1, #[]) _ ⟨HBB.out, ⟨HZ4.out, HG4.out⟩, trivial, trivial, HR1.out, trivial⟩
                      refine norm_ ?_ hj
                      rfl
                    · skip
                      refine box_step ?hg (N := 8) ?hd (cs := Try.zeroCells70) (t := 70) ?hr ?_; (case hd => rfl); (case hg => rfl); (case hr => first | (go_simp; done) | (go_simp; rfl))
                      intro g5 hg wn hbox hb
                      have HR1 := Aside0.mk (HR1.out.below hb)
                      have n0_ := Aside0.mk (below_step HBB.out hb)
                      have HBOX := Aside0.mk hbox
                      have HGE := Aside0.mk (show Y.heap.size ≤ g5 by rw [hg]; exact HBB.out.size)
                      clear HBB hHeld hb hbox hg
                      have HBB := n0_
                      clear n0_
                      refine hK.out _ _ HBB.out (fun hHeld => ?_)
                      clear hK K
                      refine norm_ (a' := ?_) ?_ ?_
                      rotate_left
                      · show Act.put _ (some 8) _ = _
                        simp only [Act.put, List.setIfInBounds_toArray, List.set_cons_zero, List.set_cons_succ, i64_w, i32_w]
                        rfl
                      have HZ5 := Aside0.mk (show Ze _ g5 from HBOX.out)
                      have HG5 := HGE
                      clear HBOX HGE
                      have hj := hJ15 (0, g5, C1, #[]) _ ⟨HBB.out, trivial, ⟨HZ5.out, HG5.out⟩, trivial, HR1.out, trivial⟩
                      refine norm_ ?_ hj
                      rfl
                · skip
                  rintro ⟨g4, g5, C1, C2⟩ wj ⟨hbj, h4j, h5j, hnj, r1j, r3j⟩
                  refine norm_ (a' := ?_) ?_ ?_
                  rotate_left
                  · show putAll _ _ = _
                    simp only [putAll, Act.put, List.setIfInBounds_toArray, List.set_cons_zero, List.set_cons_succ]
                    rfl
                  have HBB := Aside0.mk hbj
                  have hHeld := hbj
                  have HZ4 := Aside0.mk (show Ze wj g4 from h4j.1)
                  have HG4 := Aside0.mk (show Y.heap.size ≤ g4 from h4j.2)
                  have HZ5 := Aside0.mk (show Ze wj g5 from h5j.1)
                  have HG5 := Aside0.mk (show Y.heap.size ≤ g5 from h5j.2)
                  have HNE := Aside0.mk (show g4 ≠ g5 from hnj)
                  clear hbj h4j h5j hnj r1j r3j
                  refine one_ (i := 1) (N := (some 30)) #[true, true, true, false, true, true, false, false] rfl rfl (one_of HT_.out (by kernel_rfl)) (by decide) (fun K hK => ?_)
                  refine goes_ Try.func69 (by kernel_rfl) rfl #[.agg cs] (by rfl) rfl rfl (by (try simp only [List.map_toArray, List.map_cons, List.map_nil]); first | done | rfl) ?_
                  refine (H1.out _ HBB.out).mono ?_
                  rintro e wn ⟨C1, rfl, hr, hb⟩
                  refine ⟨_, rfl, ?_⟩
                  have HZ4 := Aside0.mk (HZ4.out.below hb)
                  have HZ5 := Aside0.mk (HZ5.out.below hb)
                  have HR1 := Aside0.mk hr
                  clear hr
                  have n0_ := Aside0.mk (below_step HBB.out hb)
                  clear HBB hHeld hb
                  have HBB := n0_
                  clear n0_
                  refine hK.out _ _ HBB.out (fun hHeld => ?_)
                  clear hK K
                  refine norm_ (a' := ?_) ?_ ?_
                  rotate_left
                  · show Act.put _ (some 30) _ = _
                    simp only [Act.put, List.setIfInBounds_toArray, List.set_cons_zero, List.set_cons_succ, i64_w, i32_w]
                    rfl
                  have hj := hJ145 (g4, g5, C1, #[]) _ ⟨HBB.out, ⟨HZ4.out, HG4.out⟩, ⟨HZ5.out, HG5.out⟩, HNE.out, HR1.out, trivial⟩
                  refine norm_ ?_ hj
                  rfl
              · skip
                rintro ⟨g4, g5, C1, C2⟩ wj ⟨hbj, h4j, h5j, hnj, r1j, r3j⟩
                refine norm_ (a' := ?_) ?_ ?_
                rotate_left
                · show putAll _ _ = _
                  simp only [putAll, Act.put, List.setIfInBounds_toArray, List.set_cons_zero, List.set_cons_succ]
                  rfl
                have HBB := Aside0.mk hbj
                have hHeld := hbj
                have HZ5 := Aside0.mk (show Ze wj g5 from h5j.1)
                have HG5 := Aside0.mk (show Y.heap.size ≤ g5 from h5j.2)
                have HR1 := Aside0.mk r1j
                clear hbj h4j h5j hnj r1j r3j
                refine two_ (i := 3) (j := 4) (Ni := (some 32)) (Nj := (some 7)) #[true, true, true, true, false, true, false, false] #[true, true, true, false, true, true, false, false] rfl rfl rfl rfl (two_of HT_.out (by kernel_rfl)) (by decide) (by decide) (fun K hK => ?_) (fun K hK => ?_)
                · skip
                  refine goes_ Try.func69 (by kernel_rfl) rfl #[.agg cs] (by rfl) rfl rfl (by (try simp only [List.map_toArray, List.map_cons, List.map_nil]); first | done | rfl) ?_
                  refine (H1.out _ HBB.out).mono ?_
                  rintro e wn ⟨C2, rfl, hr, hb⟩
                  refine ⟨_, rfl, ?_⟩
                  have HZ5 := Aside0.mk (HZ5.out.below hb)
                  have HR1 := Aside0.mk (HR1.out.below hb)
                  have HR3 := Aside0.mk hr
                  clear hr
                  have n0_ := Aside0.mk (below_step HBB.out hb)
                  clear HBB hHeld hb
                  have HBB := n0_
                  clear n0_
                  refine hK.out _ _ HBB.out (fun hHeld => ?_)
                  clear hK K
                  refine norm_ (a' := ?_) ?_ ?_
                  rotate_left
                  · show Act.put _ (some 32) _ = _
                    simp only [Act.put, List.setIfInBounds_toArray, List.set_cons_zero, List.set_cons_succ, i64_w, i32_w]
                    rfl
                  have hj := hJ135 (0, g5, C1, C2) _ ⟨HBB.out, trivial, ⟨HZ5.out, HG5.out⟩, trivial, HR1.out, HR3.out⟩
                  refine norm_ ?_ hj
                  rfl
                · skip
                  refine box_step ?hg (N := 7) ?hd (cs := Try.zeroCells70) (t := 70) ?hr ?_; (case hd => rfl); (case hg => rfl); (case hr => first | (go_simp; done) | (go_simp; rfl))
                  intro g4 hg wn hbox hb
                  have HNE := Aside0.mk (show g4 ≠ g5 from fun e => by have := blk_lt HZ5.out; omega)
                  have HZ5 := Aside0.mk (HZ5.out.below hb)
                  have HR1 := Aside0.mk (HR1.out.below hb)
                  have n0_ := Aside0.mk (below_step HBB.out hb)
                  have HBOX := Aside0.mk hbox
                  have HGE := Aside0.mk (show Y.heap.size ≤ g4 by rw [hg]; exact HBB.out.size)
                  clear HBB hHeld hb hbox hg
                  have HBB := n0_
                  clear n0_
                  refine hK.out _ _ HBB.out (fun hHeld => ?_)
                  clear hK K
                  refine norm_ (a' := ?_) ?_ ?_
                  rotate_left
                  · show Act.put _ (some 7) _ = _
                    simp only [Act.put, List.setIfInBounds_toArray, List.set_cons_zero, List.set_cons_succ, i64_w, i32_w]
                    rfl
                  have HZ4 := Aside0.mk (show Ze _ g4 from HBOX.out)
                  have HG4 := HGE
                  clear HBOX HGE
                  have hj := hJ145 (g4, g5, C1, #[]) _ ⟨HBB.out, ⟨HZ4.out, HG4.out⟩, ⟨HZ5.out, HG5.out⟩, HNE.out, HR1.out, trivial⟩
                  refine norm_ ?_ hj
                  rfl
            · skip
              rintro ⟨g4, g5, C1, C2⟩ wj ⟨hbj, h4j, h5j, hnj, r1j, r3j⟩
              refine norm_ (a' := ?_) ?_ ?_
              rotate_left
              · show putAll _ _ = _
                simp only [putAll, Act.put, List.setIfInBounds_toArray, List.set_cons_zero, List.set_cons_succ]
                rfl
              have HBB := Aside0.mk hbj
              have hHeld := hbj
              have HZ4 := Aside0.mk (show Ze wj g4 from h4j.1)
              have HG4 := Aside0.mk (show Y.heap.size ≤ g4 from h4j.2)
              have HR1 := Aside0.mk r1j
              clear hbj h4j h5j hnj r1j r3j
              refine two_ (i := 3) (j := 5) (Ni := (some 32)) (Nj := (some 8)) #[true, true, true, true, true, false, false, false] #[true, true, true, false, true, true, false, false] rfl rfl rfl rfl (two_of HT_.out (by kernel_rfl)) (by decide) (by decide) (fun K hK => ?_) (fun K hK => ?_)
              · skip
                refine goes_ Try.func69 (by kernel_rfl) rfl #[.agg cs] (by rfl) rfl rfl (by (try simp only [List.map_toArray, List.map_cons, List.map_nil]); first | done | rfl) ?_
                refine (H1.out _ HBB.out).mono ?_
                rintro e wn ⟨C2, rfl, hr, hb⟩
                refine ⟨_, rfl, ?_⟩
                have HZ4 := Aside0.mk (HZ4.out.below hb)
                have HR1 := Aside0.mk (HR1.out.below hb)
                have HR3 := Aside0.mk hr
                clear hr
                have n0_ := Aside0.mk (below_step HBB.out hb)
                clear HBB hHeld hb
                have HBB := n0_
                clear n0_
                refine hK.out _ _ HBB.out (fun hHeld => ?_)
                clear hK K
                refine norm_ (a' := ?_) ?_ ?_
                rotate_left
                · show Act.put _ (some 32) _ = _
                  simp only [Act.put, List.setIfInBounds_toArray, List.set_cons_zero, List.set_cons_succ, i64_w, i32_w]
                  rfl
                have hj := hJ134 (g4, 0, C1, C2) _ ⟨HBB.out, ⟨HZ4.out, HG4.out⟩, trivial, trivial, HR1.out, HR3.out⟩
                refine norm_ ?_ hj
                rfl
              · skip
                refine box_step ?hg (N := 8) ?hd (cs := Try.zeroCells70) (t := 70) ?hr ?_; (case hd => rfl); (case hg => rfl); (case hr => first | (go_simp; done) | (go_simp; rfl))
                intro g5 hg wn hbox hb
                have HNE := Aside0.mk (show g4 ≠ g5 from fun e => by have := blk_lt HZ4.out; omega)
                have HZ4 := Aside0.mk (HZ4.out.below hb)
                have HR1 := Aside0.mk (HR1.out.below hb)
                have n0_ := Aside0.mk (below_step HBB.out hb)
                have HBOX := Aside0.mk hbox
                have HGE := Aside0.mk (show Y.heap.size ≤ g5 by rw [hg]; exact HBB.out.size)
                clear HBB hHeld hb hbox hg
                have HBB := n0_
                clear n0_
                refine hK.out _ _ HBB.out (fun hHeld => ?_)
                clear hK K
                refine norm_ (a' := ?_) ?_ ?_
                rotate_left
                · show Act.put _ (some 8) _ = _
                  simp only [Act.put, List.setIfInBounds_toArray, List.set_cons_zero, List.set_cons_succ, i64_w, i32_w]
                  rfl
                have HZ5 := Aside0.mk (show Ze _ g5 from HBOX.out)
                have HG5 := HGE
                clear HBOX HGE
                have hj := hJ145 (g4, g5, C1, #[]) _ ⟨HBB.out, ⟨HZ4.out, HG4.out⟩, ⟨HZ5.out, HG5.out⟩, HNE.out, HR1.out, trivial⟩
                refine norm_ ?_ hj
                rfl
          · skip
            rintro ⟨g4, g5, C1, C2⟩ wj ⟨hbj, h4j, h5j, hnj, r1j, r3j⟩
            refine norm_ (a' := ?_) ?_ ?_
            rotate_left
            · show putAll _ _ = _
              simp only [putAll, Act.put, List.setIfInBounds_toArray, List.set_cons_zero, List.set_cons_succ]
              rfl
            have HBB := Aside0.mk hbj
            have hHeld := hbj
            have HR1 := Aside0.mk r1j
            have HR3 := Aside0.mk r3j
            clear hbj h4j h5j hnj r1j r3j
            refine two_ (i := 4) (j := 5) (Ni := (some 7)) (Nj := (some 8)) #[true, true, true, true, true, false, false, false] #[true, true, true, true, false, true, false, false] rfl rfl rfl rfl (two_of HT_.out (by kernel_rfl)) (by decide) (by decide) (fun K hK => ?_) (fun K hK => ?_)
            · skip
              refine box_step ?hg (N := 7) ?hd (cs := Try.zeroCells70) (t := 70) ?hr ?_; (case hd => rfl); (case hg => rfl); (case hr => first | (go_simp; done) | (go_simp; rfl))
              intro g4 hg wn hbox hb
              have HR1 := Aside0.mk (HR1.out.below hb)
              have HR3 := Aside0.mk (HR3.out.below hb)
              have n0_ := Aside0.mk (below_step HBB.out hb)
              have HBOX := Aside0.mk hbox
              have HGE := Aside0.mk (show Y.heap.size ≤ g4 by rw [hg]; exact HBB.out.size)
              clear HBB hHeld hb hbox hg
              have HBB := n0_
              clear n0_
              refine hK.out _ _ HBB.out (fun hHeld => ?_)
              clear hK K
              refine norm_ (a' := ?_) ?_ ?_
              rotate_left
              · show Act.put _ (some 7) _ = _
                simp only [Act.put, List.setIfInBounds_toArray, List.set_cons_zero, List.set_cons_succ, i64_w, i32_w]
                rfl
              have HZ4 := Aside0.mk (show Ze _ g4 from HBOX.out)
              have HG4 := HGE
              clear HBOX HGE
              have hj := hJ134 (g4, 0, C1, C2) _ ⟨HBB.out, ⟨HZ4.out, HG4.out⟩, trivial, trivial, HR1.out, HR3.out⟩
              refine norm_ ?_ hj
              rfl
            · skip
              refine box_step ?hg (N := 8) ?hd (cs := Try.zeroCells70) (t := 70) ?hr ?_; (case hd => rfl); (case hg => rfl); (case hr => first | (go_simp; done) | (go_simp; rfl))
              intro g5 hg wn hbox hb
              have HR1 := Aside0.mk (HR1.out.below hb)
              have HR3 := Aside0.mk (HR3.out.below hb)
              have n0_ := Aside0.mk (below_step HBB.out hb)
              have HBOX := Aside0.mk hbox
              have HGE := Aside0.mk (show Y.heap.size ≤ g5 by rw [hg]; exact HBB.out.size)
              clear HBB hHeld hb hbox hg
              have HBB := n0_
              clear n0_
              refine hK.out _ _ HBB.out (fun hHeld => ?_)
              clear hK K
              refine norm_ (a' := ?_) ?_ ?_
              rotate_left
              · show Act.put _ (some 8) _ = _
                simp only [Act.put, List.setIfInBounds_toArray, List.set_cons_zero, List.set_cons_succ, i64_w, i32_w]
                rfl
              have HZ5 := Aside0.mk (show Ze _ g5 from HBOX.out)
              have HG5 := HGE
              clear HBOX HGE
              have hj := hJ135 (0, g5, C1, C2) _ ⟨HBB.out, trivial, ⟨HZ5.out, HG5.out⟩, trivial, HR1.out, HR3.out⟩
              refine norm_ ?_ hj
              rfl
        · skip
          rintro ⟨g4, g5, C1, C2⟩ wj ⟨hbj, h4j, h5j, hnj, r1j, r3j⟩
          refine norm_ (a' := ?_) ?_ ?_
          rotate_left
          · show putAll _ _ = _
            simp only [putAll, Act.put, List.setIfInBounds_toArray, List.set_cons_zero, List.set_cons_succ]
            rfl
          have HBB := Aside0.mk hbj
          have hHeld := hbj
          have HZ4 := Aside0.mk (show Ze wj g4 from h4j.1)
          have HG4 := Aside0.mk (show Y.heap.size ≤ g4 from h4j.2)
          have HZ5 := Aside0.mk (show Ze wj g5 from h5j.1)
          have HG5 := Aside0.mk (show Y.heap.size ≤ g5 from h5j.2)
          have HNE := Aside0.mk (show g4 ≠ g5 from hnj)
          have HR1 := Aside0.mk r1j
          clear hbj h4j h5j hnj r1j r3j
          refine one_ (i := 3) (N := (some 32)) #[true, true, true, true, true, true, false, false] rfl rfl (one_of HT_.out (by kernel_rfl)) (by decide) (fun K hK => ?_)
          refine goes_ Try.func69 (by kernel_rfl) rfl #[.agg cs] (by rfl) rfl rfl (by (try simp only [List.map_toArray, List.map_cons, List.map_nil]); first | done | rfl) ?_
          refine (H1.out _ HBB.out).mono ?_
          rintro e wn ⟨C2, rfl, hr, hb⟩
          refine ⟨_, rfl, ?_⟩
          have HZ4 := Aside0.mk (HZ4.out.below hb)
          have HZ5 := Aside0.mk (HZ5.out.below hb)
          have HR1 := Aside0.mk (HR1.out.below hb)
          have HR3 := Aside0.mk hr
          clear hr
          have n0_ := Aside0.mk (below_step HBB.out hb)
          clear HBB hHeld hb
          have HBB := n0_
          clear n0_
          refine hK.out _ _ HBB.out (fun hHeld => ?_)
          clear hK K
          refine norm_ (a' := ?_) ?_ ?_
          rotate_left
          · show Act.put _ (some 32) _ = _
            simp only [Act.put, List.setIfInBounds_toArray, List.set_cons_zero, List.set_cons_succ, i64_w, i32_w]
            rfl
          have hj := hJ1345 (g4, g5, C1, C2) _ ⟨HBB.out, ⟨HZ4.out, HG4.out⟩, ⟨HZ5.out, HG5.out⟩, HNE.out, HR1.out, HR3.out⟩
          refine norm_ ?_ hj
          rfl
      · skip
        rintro ⟨g4, g5, C1, C2⟩ wj ⟨hbj, h4j, h5j, hnj, r1j, r3j⟩
        refine norm_ (a' := ?_) ?_ ?_
        rotate_left
        · show putAll _ _ = _
          simp only [putAll, Act.put, List.setIfInBounds_toArray, List.set_cons_zero, List.set_cons_succ]
          rfl
        have HBB := Aside0.mk hbj
        have hHeld := hbj
        have HZ5 := Aside0.mk (show Ze wj g5 from h5j.1)
        have HG5 := Aside0.mk (show Y.heap.size ≤ g5 from h5j.2)
        have HR1 := Aside0.mk r1j
        have HR3 := Aside0.mk r3j
        clear hbj h4j h5j hnj r1j r3j
        refine one_ (i := 4) (N := (some 7)) #[true, true, true, true, true, true, false, false] rfl rfl (one_of HT_.out (by kernel_rfl)) (by decide) (fun K hK => ?_)
        refine box_step ?hg (N := 7) ?hd (cs := Try.zeroCells70) (t := 70) ?hr ?_; (case hd => rfl); (case hg => rfl); (case hr => first | (go_simp; done) | (go_simp; rfl))
        intro g4 hg wn hbox hb
        have HNE := Aside0.mk (show g4 ≠ g5 from fun e => by have := blk_lt HZ5.out; omega)
        have HZ5 := Aside0.mk (HZ5.out.below hb)
        have HR1 := Aside0.mk (HR1.out.below hb)
        have HR3 := Aside0.mk (HR3.out.below hb)
        have n0_ := Aside0.mk (below_step HBB.out hb)
        have HBOX := Aside0.mk hbox
        have HGE := Aside0.mk (show Y.heap.size ≤ g4 by rw [hg]; exact HBB.out.size)
        clear HBB hHeld hb hbox hg
        have HBB := n0_
        clear n0_
        refine hK.out _ _ HBB.out (fun hHeld => ?_)
        clear hK K
        refine norm_ (a' := ?_) ?_ ?_
        rotate_left
        · show Act.put _ (some 7) _ = _
          simp only [Act.put, List.setIfInBounds_toArray, List.set_cons_zero, List.set_cons_succ, i64_w, i32_w]
          rfl
        have HZ4 := Aside0.mk (show Ze _ g4 from HBOX.out)
        have HG4 := HGE
        clear HBOX HGE
        have hj := hJ1345 (g4, g5, C1, C2) _ ⟨HBB.out, ⟨HZ4.out, HG4.out⟩, ⟨HZ5.out, HG5.out⟩, HNE.out, HR1.out, HR3.out⟩
        refine norm_ ?_ hj
        rfl
    · skip
      rintro ⟨g4, g5, C1, C2⟩ wj ⟨hbj, h4j, h5j, hnj, r1j, r3j⟩
      refine norm_ (a' := ?_) ?_ ?_
      rotate_left
      · show putAll _ _ = _
        simp only [putAll, Act.put, List.setIfInBounds_toArray, List.set_cons_zero, List.set_cons_succ]
        rfl
      have HBB := Aside0.mk hbj
      have hHeld := hbj
      have HZ4 := Aside0.mk (show Ze wj g4 from h4j.1)
      have HG4 := Aside0.mk (show Y.heap.size ≤ g4 from h4j.2)
      have HR1 := Aside0.mk r1j
      have HR3 := Aside0.mk r3j
      clear hbj h4j h5j hnj r1j r3j
      refine one_ (i := 5) (N := (some 8)) #[true, true, true, true, true, true, false, false] rfl rfl (one_of HT_.out (by kernel_rfl)) (by decide) (fun K hK => ?_)
      refine box_step ?hg (N := 8) ?hd (cs := Try.zeroCells70) (t := 70) ?hr ?_; (case hd => rfl); (case hg => rfl); (case hr => first | (go_simp; done) | (go_simp; rfl))
      intro g5 hg wn hbox hb
      have HNE := Aside0.mk (show g4 ≠ g5 from fun e => by have := blk_lt HZ4.out; omega)
      have HZ4 := Aside0.mk (HZ4.out.below hb)
      have HR1 := Aside0.mk (HR1.out.below hb)
      have HR3 := Aside0.mk (HR3.out.below hb)
      have n0_ := Aside0.mk (below_step HBB.out hb)
      have HBOX := Aside0.mk hbox
      have HGE := Aside0.mk (show Y.heap.size ≤ g5 by rw [hg]; exact HBB.out.size)
      clear HBB hHeld hb hbox hg
      have HBB := n0_
      clear n0_
      refine hK.out _ _ HBB.out (fun hHeld => ?_)
      clear hK K
      refine norm_ (a' := ?_) ?_ ?_
      rotate_left
      · show Act.put _ (some 8) _ = _
        simp only [Act.put, List.setIfInBounds_toArray, List.set_cons_zero, List.set_cons_succ, i64_w, i32_w]
        rfl
      have HZ5 := Aside0.mk (show Ze _ g5 from HBOX.out)
      have HG5 := HGE
      clear HBOX HGE
      have hj := hJ1345 (g4, g5, C1, C2) _ ⟨HBB.out, ⟨HZ4.out, HG4.out⟩, ⟨HZ5.out, HG5.out⟩, HNE.out, HR1.out, HR3.out⟩
      refine norm_ ?_ hj
      rfl
  · skip
    rintro ⟨g4, g5, C1, C2⟩ wj ⟨hbj, h4j, h5j, hnj, r1j, r3j⟩
    refine norm_ (a' := ?_) ?_ ?_
    rotate_left
    · show putAll _ _ = _
      simp only [putAll, Act.put, List.setIfInBounds_toArray, List.set_cons_zero, List.set_cons_succ]
      rfl
    have HBB := Aside0.mk hbj
    have hHeld := hbj
    have HZ4 := Aside0.mk (show Ze wj g4 from h4j.1)
    have HG4 := Aside0.mk (show Y.heap.size ≤ g4 from h4j.2)
    have HZ5 := Aside0.mk (show Ze wj g5 from h5j.1)
    have HG5 := Aside0.mk (show Y.heap.size ≤ g5 from h5j.2)
    have HNE := Aside0.mk (show g4 ≠ g5 from hnj)
    have HR1 := Aside0.mk r1j
    have HR3 := Aside0.mk r3j
    clear hbj h4j h5j hnj r1j r3j
    refine one_ (i := 6) (N := none) #[true, true, true, true, true, true, true, false] rfl rfl (one_of HT_.out (by kernel_rfl)) (by decide) (fun K hK => ?_)
    refine skip_ (w1 := wj.setRow g4 C1) (by rfl) rfl (exec_store_row 70 (.tmp 7) (.tmp 30) rfl g4 C1 (by rfl) (by rfl) 70 _ HZ4.out (by rw [HR1.out.rd.1]; kernel_rfl) (by rw [HR1.out.rd.1]; exact HZZ.out) (rd_one HR1.out.rd).all) ?_
    have hbs := below_setRow HBB.out HG4.out C1
    have hws : RegAt (wj.setRow g4 C1) g4 C1 := setRow_heap wj g4 _ _ _ _ HZ4.out
    have hz5 : Ze (wj.setRow g4 C1) g5 := (setRow_other wj g4 g5 _ (Ne.symm HNE.out)).trans HZ5.out
    have hr1 : Stay (wj.setRow g4 C1) C1 r := HR1.out.setRow HZ4.out _
    have hr3 : Stay (wj.setRow g4 C1) C2 r := HR3.out.setRow HZ4.out _
    refine hK.out _ _ hbs (fun hHeld => ?_)
    clear hK K
    generalize wj.setRow g4 C1 = wk at hbs hws hz5 hHeld hr1 hr3 ⊢
    have HX4 := Aside0.mk hws
    have HZ5 := Aside0.mk hz5
    have HBB := Aside0.mk hbs
    have HR1 := Aside0.mk hr1
    have HR3 := Aside0.mk hr3
    clear hws hz5 hbs hr1 hr3
    refine one_ (i := 7) (N := none) #[true, true, true, true, true, true, true, true] rfl rfl (one_of HT_.out (by kernel_rfl)) (by decide) (fun K hK => ?_)
    refine skip_ (w1 := wk.setRow g5 C2) (by rfl) rfl (exec_store_row 70 (.tmp 8) (.tmp 32) rfl g5 C2 (by rfl) (by rfl) 70 _ HZ5.out (by rw [HR3.out.rd.1]; kernel_rfl) (by rw [HR3.out.rd.1]; exact HZZ.out) (rd_one HR3.out.rd).all) ?_
    have hbs := below_setRow HBB.out HG5.out C2
    have hws : RegAt (wk.setRow g5 C2) g5 C2 := setRow_heap wk g5 _ _ _ _ HZ5.out
    have hx4 : RegAt (wk.setRow g5 C2) g4 C1 := (setRow_other wk g5 g4 _ HNE.out).trans HX4.out
    have hr1 : Stay (wk.setRow g5 C2) C1 r := HR1.out.setRow HZ5.out _
    have hr3 : Stay (wk.setRow g5 C2) C2 r := HR3.out.setRow HZ5.out _
    refine hK.out _ _ hbs (fun hHeld => ?_)
    clear hK K
    refine done_ (done_of HT_.out (by kernel_rfl)) ?_
    exact HQ.out g4 g5 C1 C2 _ hbs HG4.out HG5.out hx4 hws hr1 hr3
end Go.Proofs.YthdmacdeefohkaaRp3
namespace Go.Proofs.YthdmacdeefohkaaRpL
open Go.RowKit Go.Proofs.YthdmacdeefohkaaW.PrintWords Go.Proofs.YthdmacdeefohkaaW.PrintLast Go.Proofs.YthdmacdeefohkaaW.PrintMore Go.Proofs.YthdmacdeefohkaaMem Go.Proofs.YthdmacdeefohkaaLeaf Go.Proofs.YthdmacdeefohkaaBits Go.Proofs.Ythdmacdeefohkaa.PMa Go.Proofs.YthdmacdeefohkaaMTerm Go.Proofs.YthdmacdeefohkaaMVal Go.Proofs.YthdmacdeefohkaaCopyK Go.Proofs.YthdmacdeefohkaaTc Go.Proofs.YthdmacdeefohkaaRv Go.Proofs.YthdmacdeefohkaaOf Go.Proofs.YthdmacdeefohkaaPt Go.Proofs.YthdmacdeefohkaaRegs Go.Proofs.YthdmacdeefohkaaPx Go.Proofs.YthdmacdeefohkaaPy Go.Proofs.YthdmacdeefohkaaArgs Go.Proofs.YthdmacdeefohkaaFa Go.Proofs.YthdmacdeefohkaaFw Go.Proofs.YthdmacdeefohkaaStands Go.Proofs.YthdmacdeefohkaaSource Go.Proofs.YthdmacdeefohkaaEq Go.Proofs.YthdmacdeefohkaaSm Go.Proofs.YthdmacdeefohkaaAwake21 Go.Proofs.YthdmacdeefohkaaRp3 Go.Proofs
set_option linter.unusedVariables false
set_option linter.unusedSimpArgs false
section
variable {P : Program}
theorem wpList_load_row_w {ops : Array Oper} {rest : List Oper} {o : Oper} {a : Act} {w : World} {Q : Exit → Act → World → Prop} (hw : Region.wanted o (yielded ops a.tmps) = true) (ty : TypeId) (x : Operand) (ho : o.op = .load ty x)
    (g : Nat) (hx : a.eval x = .pointer (some ⟨g, 0, none⟩)) (t : TypeId) (cs : Array Value) (fr : Nat × Nat) (d : TypeDesc) (hg : w.heap[g]? = some (.cells cs t fr))
    (hu : P.underlying ty = some d) (hd : (match d with | .struct _ | .array _ _ => true | _ => false) = true) (hi : (P.info? ty).map (·.size) = some cs.size)
    (h : wpList P ops Q rest (a.put o.dst (.agg cs)) w) : wpList P ops Q (o :: rest) a w :=
  wpList_step fun K hK => by
    rw [if_pos hw]
    exact wp_load_row ty x ho g hx t cs fr d hg hu hd hi (hK _ _ h)
end
/-- What Put makes of registers. -/
def Puts (r : RV) (tg N : Int) (t : S45) (r' : RV) (ok : Bool) : Prop :=
  (ok = false ∧ r' = r) ∨ (ok = true ∧ tg = 3 ∧ ∃ i : Nat, N = (i : Int) ∧ i < 16 ∧ r' = setX r i t) ∨ (ok = true ∧ tg = 4 ∧ ∃ i : Nat, N = (i : Int) ∧ i < (slotsOf r).length ∧ r' = setY r i t)
theorem slots_few {r : RV} (hf : FewR r) : (slotsOf r).length ≤ 20 ∧ ∀ i, i < (slotsOf r).length → Lt 40 ((slotsOf r).getD i z45) := by
  unfold slotsOf
  by_cases h : r.fr = true
  · rw [if_pos h]
    by_cases h0 : 0 < r.fs.length
    · exact hf.2.2 (r.fs.length - 1) (by omega)
    · have : r.fs = [] := List.eq_nil_of_length_eq_zero (by omega)
      rw [this]
      exact ⟨by simp, fun i hi => by simp at hi⟩
  · rw [if_neg h]
    exact ⟨by simp, fun i hi => by simp at hi⟩
theorem put_any (w : World) (cs : Array Value) (r : RV) (h : Rd w cs r) (hf : FewR r) (tg N : Int) (la : Value) (t : S45) (A2 : Option Addr) (c2 : Nat) (A5 : Option Addr) (c5 : Nat) (ht : Lies w t A2 c2 A5 c5) :
    ∃ r' ok, Puts r tg N t r' ok ∧ Calls Try.prog 70 #[.agg cs, .agg #[.int .i64 tg, .int .i64 N, la], .agg (cellsT t A2 c2 A5 c5)] w (PutPost r' ok w) := by
  have h8 := hf.1
  by_cases hX : tg = 3 ∧ 0 ≤ N ∧ N < 16
  · obtain ⟨rfl, h0, h1⟩ := hX
    obtain ⟨i, rfl⟩ : ∃ i : Nat, N = (i : Int) := ⟨N.toNat, by omega⟩
    exact ⟨_, _, .inr (.inl ⟨rfl, rfl, i, rfl, by omega, rfl⟩), put_X w cs r h (by omega) i (by omega) la t A2 c2 A5 c5 ht⟩
  · by_cases hY : tg = 4 ∧ 0 ≤ N ∧ N < ((slotsOf r).length : Int) ∧ ((slotsOf r).getD N.toNat z45).f0 ≠ 9
    · obtain ⟨rfl, h0, h1, h2⟩ := hY
      obtain ⟨i, rfl⟩ : ∃ i : Nat, N = (i : Int) := ⟨N.toNat, by omega⟩
      rw [Int.toNat_natCast] at h2
      exact ⟨_, _, .inr (.inr ⟨rfl, rfl, i, rfl, by omega, rfl⟩), put_Y w cs r h (by omega) i (by omega) h2 (by have := (slots_few hf).1; omega) la t A2 c2 A5 c5 ht⟩
    · refine ⟨r, false, .inl ⟨rfl, rfl⟩, put_no w cs r h (by omega) tg N ?_ la _⟩
      unfold NoPut
      by_cases h3 : tg = 3
      · by_cases h0 : N < 0
        · exact .inl ⟨h3, h0⟩
        · exact .inr (.inl ⟨h3, h0, by
            by_cases h16 : 16 ≤ N
            · exact h16
            · exact absurd ⟨h3, by omega, by omega⟩ hX⟩)
      · by_cases h4 : tg = 4
        · by_cases h0 : N < 0
          · exact .inr (.inr (.inl ⟨h4, h0⟩))
          · by_cases hl : ((slotsOf r).length : Int) ≤ N
            · exact .inr (.inr (.inr (.inl ⟨h4, h0, hl⟩)))
            · refine .inr (.inr (.inr (.inr (.inl ⟨h4, N.toNat, by omega, by omega, ?_⟩))))
              by_cases h9 : ((slotsOf r).getD N.toNat z45).f0 = 9
              · exact h9
              · exact absurd ⟨h4, by omega, by omega, h9⟩ hY
        · exact .inr (.inr (.inr (.inr (.inr ⟨h3, h4⟩))))
/-- A register read as a source. -/
theorem src_rd_X (w : World) (cs ms : Array Value) (hms : ms.size = 6) (la : Value) (r : RV) (h : Rd w cs r) (i : Nat) (hi : i < 16) :
    Calls Try.prog 47 #[.agg cs, .agg ms, .agg #[.int .i64 3, .int .i64 (i : Int), la]] w (Srcd Lies (srcT (r.xs.getD i z45)) (plainB (r.xs.getD i z45)) w) := by
  obtain ⟨A2, c2, A5, c5, hl, q⟩ := h.2.2.1 i hi
  refine src_of sticks_lies w cs ms _ h.1 hms rfl _ A2 c2 A5 c5 hl (fun W hW => stands_X W cs ms _ la _ _ _ _ _ (fun W' g hg _ => ?_))
  refine .inl ⟨i, ⟨g, 0, none⟩, rfl, hi, rfl, ?_⟩
  have ha : ((⟨g, 0, none⟩ : Addr).add (i * 6)) = ⟨g, i * 6, none⟩ := by rw [add_plain]
  rw [ha]
  exact ⟨(blk_cell hg _).trans (q 0 (by omega)), (blk_cell hg _).trans (q 1 (by omega)), (blk_cell hg _).trans (q 2 (by omega)), (blk_cell hg _).trans (q 3 (by omega)), (blk_cell hg _).trans (q 4 (by omega)), (blk_cell hg _).trans (q 5 (by omega))⟩
/-- A slot read as a source. -/
theorem src_rd_Y (w : World) (cs ms : Array Value) (hms : ms.size = 6) (la : Value) (r : RV) (h : Rd w cs r) (hf : r.fs.length ≤ 1000) (hs : (slotsOf r).length ≤ 1000) (i : Nat) (hi : i < (slotsOf r).length) :
    Calls Try.prog 47 #[.agg cs, .agg ms, .agg #[.int .i64 4, .int .i64 (i : Int), la]] w (Srcd Lies (srcT ((slotsOf r).getD i z45)) (plainB ((slotsOf r).getD i z45)) w) := by
  obtain ⟨F, fc, q96, hfc, hF⟩ := h.2.2.2.1
  obtain ⟨q97, _⟩ := h.2.2.2.2
  have hfr : r.fr = true ∧ 0 < r.fs.length := by
    constructor
    · cases hq : r.fr
      · simp [slotsOf, hq] at hi
      · rfl
    · cases hq : r.fs with
      | nil => simp [slotsOf, hq] at hi
      | cons a l => simp
  obtain ⟨ad, Y, c, rfl, _, q, hc, hC⟩ := fr_at hF (r.fs.length - 1) (by omega)
  have e : slotsOf r = (r.fs.getD (r.fs.length - 1) (0, [])).2 := by unfold slotsOf; rw [if_pos hfr.1]
  rw [e] at hs hi ⊢
  obtain ⟨A2, c2, A5, c5, hA, hl⟩ := at_row hC i
  exact src_Y sticks_lies w cs ms la h.1 hms (some ad) r.fs.length fc r.fr Y _ c q96 q97 (by omega) (by omega) (.inr ⟨hfr.1, hfr.2, ad, rfl, q⟩) _ i ⟨A2, c2, A5, c5, hA, hl⟩
theorem slots_setY {r : RV} {i : Nat} {t : S45} (hi : i < (slotsOf r).length) : (slotsOf (setY r i t)) = (slotsOf r).set i t := by
  have hfr : r.fr = true ∧ 0 < r.fs.length := by
    constructor
    · cases hq : r.fr
      · simp [slotsOf, hq] at hi
      · rfl
    · cases hq : r.fs with
      | nil => simp [slotsOf, hq] at hi
      | cons a l => simp
  conv => lhs; unfold slotsOf setY
  simp only [List.length_set]
  rw [if_pos hfr.1, List.getD_eq_getElem?_getD, List.getElem?_set_self (by omega)]
  rfl
/-- What was put is what stands there. -/
theorem src_put (w : World) (cs ms : Array Value) (hms : ms.size = 6) (la : Value) (r r' : RV) (hf : FewR r) (tg N : Int) (t : S45) (hp : Puts r tg N t r' true) (h : Rd w cs r') :
    Calls Try.prog 47 #[.agg cs, .agg ms, .agg #[.int .i64 tg, .int .i64 N, la]] w (Srcd Lies (srcT t) (plainB t) w) := by
  rcases hp with ⟨h0, _⟩ | ⟨_, rfl, i, rfl, hi, rfl⟩ | ⟨_, rfl, i, rfl, hi, rfl⟩
  · cases h0
  · have hc := src_rd_X w cs ms hms la _ h i hi
    have hl : r.xs.length = 16 := by have := h.2.1; simpa [setX] using this
    have e : (setX r i t).xs.getD i z45 = t := by simp [setX, List.getD_eq_getElem?_getD, hl, hi]
    rw [e] at hc
    exact hc
  · have es := slots_setY (t := t) hi
    have hlen : (slotsOf (setY r i t)).length = (slotsOf r).length := by rw [es, List.length_set]
    have h20 := (slots_few hf).1
    have hc := src_rd_Y w cs ms hms la _ h (by have := hf.1; simp [setY]; omega) (by omega) i (by omega)
    have e : (slotsOf (setY r i t)).getD i z45 = t := by rw [es, List.getD_eq_getElem?_getD, List.getElem?_set_self hi]; rfl
    rw [e] at hc
    exact hc
end Go.Proofs.YthdmacdeefohkaaRpL
namespace Go.Proofs.YthdmacdeefohkaaRp15
open Go.RowKit Go.Proofs.YthdmacdeefohkaaW.PrintWords Go.Proofs.YthdmacdeefohkaaW.PrintLast Go.Proofs.YthdmacdeefohkaaW.PrintMore Go.Proofs.YthdmacdeefohkaaMem Go.Proofs.YthdmacdeefohkaaLeaf Go.Proofs.YthdmacdeefohkaaBits Go.Proofs.Ythdmacdeefohkaa.PMa Go.Proofs.YthdmacdeefohkaaMTerm Go.Proofs.YthdmacdeefohkaaMVal Go.Proofs.YthdmacdeefohkaaCopyK Go.Proofs.YthdmacdeefohkaaTc Go.Proofs.YthdmacdeefohkaaRv Go.Proofs.YthdmacdeefohkaaRp3 Go.Proofs
set_option linter.unusedVariables false
set_option linter.unusedSimpArgs false

def T15 : Bool × List (List Nat × List Nat) := (true, [([], []), ([0], [0]), ([1], [1]), ([2], [2]), ([3], [3]), ([4, 3], [3, 4]), ([3], [3]), ([5, 6, 3], [3, 5, 6]), ([3, 7], [3, 7]), ([8, 3], [8]), ([9], [9]), ([9], [9]), ([11, 10, 9], [9, 10, 11]), ([12, 9], [9, 12]), ([9], [9]), ([9], [9]), ([15, 14, 9], [9, 14, 15]), ([16, 9], [9, 16]), ([13, 17, 9, 9], [9, 13, 17]), ([18, 9], [9, 18]), ([9, 19], [9, 19])])
def B15 : List Nat := [0, 1, 3, 7, 15, 31, 15, 127, 255, 511, 1023, 1023, 4095, 8191, 1023, 1023, 50175, 115711, 262143, 524287, 1048575]
def O15 : Array Oper := #[{ dst := some 90, op := Op.fieldAddr 77 (Operand.tmp 4) 0, type := 0, pos := "law.go:104", after := #[], guard := none }, { dst := some 91, op := Op.load 3 (Operand.tmp 90), type := 3, pos := "law.go:104", after := #[{ on := 0, ground := Ground.data }], guard := none }, { dst := some 92, op := Op.binOp BinOp.neq 3 (Operand.tmp 91) (Operand.const (Value.int IntKind.i64 3)) 3, type := 4, pos := "law.go:104", after := #[{ on := 1, ground := Ground.data }], guard := none }, { dst := some 93, op := Op.move (Operand.tmp 92), type := 4, pos := "law.go:104", after := #[{ on := 2, ground := Ground.data }], guard := none }, { dst := some 94, op := Op.fieldAddr 77 (Operand.tmp 4) 1, type := 0, pos := "law.go:104", after := #[{ on := 3, ground := Ground.guard }], guard := some (3, false) }, { dst := some 95, op := Op.load 3 (Operand.tmp 94), type := 3, pos := "law.go:104", after := #[{ on := 4, ground := Ground.data }, { on := 3, ground := Ground.guard }], guard := some (3, false) }, { dst := some 96, op := Op.move (Operand.tmp 13), type := 3, pos := "law.go:104", after := #[{ on := 3, ground := Ground.guard }], guard := some (3, false) }, { dst := some 97, op := Op.binOp BinOp.neq 3 (Operand.tmp 95) (Operand.tmp 96) 3, type := 4, pos := "law.go:104", after := #[{ on := 5, ground := Ground.data }, { on := 6, ground := Ground.data }, { on := 3, ground := Ground.guard }], guard := some (3, false) }, { dst := some 98, op := Op.pick (Operand.tmp 93) (Operand.const (Value.bool true)) (Operand.tmp 97), type := 4, pos := "law.go:104", after := #[{ on := 3, ground := Ground.data }, { on := 7, ground := Ground.data }], guard := none }, { dst := some 99, op := Op.move (Operand.tmp 98), type := 4, pos := "law.go:104", after := #[{ on := 8, ground := Ground.data }, { on := 3, ground := Ground.chain }], guard := none }, { dst := some 100, op := Op.move (Operand.tmp 13), type := 3, pos := "law.go:104", after := #[{ on := 9, ground := Ground.guard }], guard := some (9, true) }, { dst := some 101, op := Op.fieldAddr 70 (Operand.tmp 9) 0, type := 0, pos := "law.go:104", after := #[{ on := 9, ground := Ground.guard }], guard := some (9, true) }, { dst := some 102, op := Op.indexAddr 67 (Operand.tmp 101) (Operand.tmp 100), type := 0, pos := "law.go:104", after := #[{ on := 11, ground := Ground.data }, { on := 10, ground := Ground.data }, { on := 9, ground := Ground.guard }], guard := some (9, true) }, { dst := some 103, op := Op.load 45 (Operand.tmp 102), type := 45, pos := "law.go:104", after := #[{ on := 12, ground := Ground.data }, { on := 9, ground := Ground.guard }], guard := some (9, true) }, { dst := some 104, op := Op.move (Operand.tmp 13), type := 3, pos := "law.go:104", after := #[{ on := 9, ground := Ground.guard }], guard := some (9, true) }, { dst := some 105, op := Op.fieldAddr 70 (Operand.tmp 7) 0, type := 0, pos := "law.go:104", after := #[{ on := 9, ground := Ground.guard }], guard := some (9, true) }, { dst := some 106, op := Op.indexAddr 67 (Operand.tmp 105) (Operand.tmp 104), type := 0, pos := "law.go:104", after := #[{ on := 15, ground := Ground.data }, { on := 14, ground := Ground.data }, { on := 9, ground := Ground.guard }], guard := some (9, true) }, { dst := some 107, op := Op.load 45 (Operand.tmp 106), type := 45, pos := "law.go:104", after := #[{ on := 16, ground := Ground.data }, { on := 9, ground := Ground.guard }], guard := some (9, true) }, { dst := some 108, op := Op.call { callee := Callee.value (Operand.func 33), args := #[Operand.tmp 103, Operand.tmp 107], argTypes := #[45, 45] }, type := 4, pos := "law.go:104", after := #[{ on := 13, ground := Ground.data }, { on := 17, ground := Ground.data }, { on := 9, ground := Ground.chain }, { on := 9, ground := Ground.guard }], guard := some (9, true) }, { dst := some 109, op := Op.unOp UnOp.not 4 (Operand.tmp 108), type := 4, pos := "law.go:104", after := #[{ on := 18, ground := Ground.data }, { on := 9, ground := Ground.guard }], guard := some (9, true) }, { dst := some 110, op := Op.pick (Operand.tmp 99) (Operand.tmp 109) (Operand.const (Value.bool false)), type := 4, pos := "law.go:104", after := #[{ on := 9, ground := Ground.data }, { on := 19, ground := Ground.data }], guard := none }]
theorem tab15 : rtab .any O15 = T15 := by kernel_rfl
theorem bits15 : waitsOk T15.2 B15 = true := by kernel_rfl
set_option maxHeartbeats 16000000 in
set_option maxRecDepth 100000 in
theorem reg15a {u0 u1 u2 u3 u5 u6 u8 u10 u11 u12 u14 u15 u16 u17 u18 u19 u20 u21 u22 u23 u24 u25 u26 u27 u28 u29 u30 u31 u32 u33 u34 u35 u36 u37 u38 u39 u40 u41 u42 u43 u44 u45 u46 u47 u48 u49 u50 u51 u52 u53 u54 u55 u56 u57 u58 u59 u60 u61 u62 u63 u64 u65 u66 u67 u68 u69 u70 u71 u72 u73 u74 u75 u76 u77 u78 u79 u80 u81 u82 u83 u84 u85 u86 u87 u88 u89 u111 u112 u113 u114 u115 u116 u117 u118 u119 u120 u121 u122 u123 u124 u125 u126 u127 u128 u129 u130 u131 u132 : Value} {u90 u91 u92 u93 u94 u95 u96 u97 u98 u99 u100 u101 u102 u103 u104 u105 u106 u107 u108 u109 u110 : Value} {Q : Exit → Act → World → Prop} (hP : ∀ c (a : Act) d v w, Q (.panic c) (a.put d v) w → Q (.panic c) a w) {Y : World} {ga gx gy i : Nat} {tg N : Int} {la : Value} (hi : i < 16) (h3 : tg ≠ 3) (ha : Y.heap[ga]? = some (.cells #[.int .i64 tg, .int .i64 N, la] 77 (0, 0)))
    {Cx Cy : Array Value} {r s : RV} (hx : RegAt Y gx Cx) (hy : RegAt Y gy Cy) (hrx : Rd Y Cx r) (hry : Rd Y Cy s) (he : s.xs.getD i z45 = r.xs.getD i z45) (hl : Lt 40 (r.xs.getD i z45))
    (hQ : ∀ Y2 Yc2 Y5 Yc5 X2 Xc2 X5 Xc5 W1, Below Y.heap.size Y W1 → Q .normal ⟨#[u0, u1, u2, u3, .pointer (some ⟨ga, 0, none⟩), u5, u6, .pointer (some ⟨gx, 0, none⟩), u8, .pointer (some ⟨gy, 0, none⟩), u10, u11, u12, .int .i64 (i : Int), u14, u15, u16, u17, u18, u19, u20, u21, u22, u23, u24, u25, u26, u27, u28, u29, u30, u31, u32, u33, u34, u35, u36, u37, u38, u39, u40, u41, u42, u43, u44, u45, u46, u47, u48, u49, u50, u51, u52, u53, u54, u55, u56, u57, u58, u59, u60, u61, u62, u63, u64, u65, u66, u67, u68, u69, u70, u71, u72, u73, u74, u75, u76, u77, u78, u79, u80, u81, u82, u83, u84, u85, u86, u87, u88, u89, .pointer (some ⟨ga, 0, none⟩), .int .i64 tg, .bool true, .bool true, undef, undef, undef, undef, .bool true, .bool true, .int .i64 (i : Int), .pointer (some ⟨gy, 0, none⟩), .pointer (some ⟨gy, i * 6, none⟩), .agg #[.int .i64 (r.xs.getD i z45).f0, .bool (r.xs.getD i z45).f1.f0, .slice Y2 (r.xs.getD i z45).f1.f1.length Yc2, .string (r.xs.getD i z45).f2, .int .i64 (r.xs.getD i z45).f3, .slice Y5 (r.xs.getD i z45).f4.length Yc5], .int .i64 (i : Int), .pointer (some ⟨gx, 0, none⟩), .pointer (some ⟨gx, i * 6, none⟩), .agg #[.int .i64 (r.xs.getD i z45).f0, .bool (r.xs.getD i z45).f1.f0, .slice X2 (r.xs.getD i z45).f1.f1.length Xc2, .string (r.xs.getD i z45).f2, .int .i64 (r.xs.getD i z45).f3, .slice X5 (r.xs.getD i z45).f4.length Xc5], .bool true, .bool false, .bool false, u111, u112, u113, u114, u115, u116, u117, u118, u119, u120, u121, u122, u123, u124, u125, u126, u127, u128, u129, u130, u131, u132], []⟩ W1) :
    (Code.region 15 O15 true).wp Try.prog Q ⟨#[u0, u1, u2, u3, .pointer (some ⟨ga, 0, none⟩), u5, u6, .pointer (some ⟨gx, 0, none⟩), u8, .pointer (some ⟨gy, 0, none⟩), u10, u11, u12, .int .i64 (i : Int), u14, u15, u16, u17, u18, u19, u20, u21, u22, u23, u24, u25, u26, u27, u28, u29, u30, u31, u32, u33, u34, u35, u36, u37, u38, u39, u40, u41, u42, u43, u44, u45, u46, u47, u48, u49, u50, u51, u52, u53, u54, u55, u56, u57, u58, u59, u60, u61, u62, u63, u64, u65, u66, u67, u68, u69, u70, u71, u72, u73, u74, u75, u76, u77, u78, u79, u80, u81, u82, u83, u84, u85, u86, u87, u88, u89, u90, u91, u92, u93, u94, u95, u96, u97, u98, u99, u100, u101, u102, u103, u104, u105, u106, u107, u108, u109, u110, u111, u112, u113, u114, u115, u116, u117, u118, u119, u120, u121, u122, u123, u124, u125, u126, u127, u128, u129, u130, u131, u132], []⟩ Y := by
  unfold O15
  have hu45 := Try.underlying45
  have hu70 := Try.underlying70
  have hu67 := Try.underlying67
  have hu77 := Try.underlying77
  have hi2 : (i : Int) < 16 := by omega
  have HA := Aside0.mk ha

  obtain ⟨Y2, Yc2, Y5, Yc5, ly, y0, y1, y2, y3, y4, y5⟩ := hry.reg hy i hi
  obtain ⟨X2, Xc2, X5, Xc5, lx, x0, x1, x2, x3, x4, x5⟩ := hrx.reg hx i hi
  rw [he] at ly y0 y1 y2 y3 y4 y5
  generalize r.xs.getD i z45 = x at hl ly lx y0 y1 y2 y3 y4 y5 x0 x1 x2 x3 x4 x5 hQ
  have HLX := Aside0.mk (And.intro hl (And.intro ly lx))
  have HYC := Aside0.mk (And.intro y0 (And.intro y1 (And.intro y2 (And.intro y3 (And.intro y4 y5)))))
  have HXC := Aside0.mk (And.intro x0 (And.intro x1 (And.intro x2 (And.intro x3 (And.intro x4 x5)))))
  have HQ := Aside0.mk hQ
  have HP := Aside0.mk hP
  clear ha hQ hP
  clear hx hy hrx hry he hl ly lx y0 y1 y2 y3 y4 y5 x0 x1 x2 x3 x4 x5
  have HBB := Aside0.mk (below_drew (Below.refl Y.heap.size Y))
  refine start_ (n := 21) (S := fun w' => Below Y.heap.size Y w') (ds := []) #[false, false, false, false, false, false, false, false, false, false, false, false, false, false, false, false, false, false, false, false, false] (by kernel_rfl) rfl rfl HBB.out (fun hHeld => ?_); refine with_tabW tab15 bits15 (fun HT_ HW_ => ?_)
  generalize Y.drew = wd at HBB hHeld ⊢
  refine pure_ (i := 0) (N := (some 90)) (v := .pointer (some ⟨ga, 0, none⟩)) (a' := ?_) #[true, false, false, false, false, false, false, false, false, false, false, false, false, false, false, false, false, false, false, false, false] rfl rfl (any_of HT_.out (by kernel_rfl)) (fun _ _ _ h => HP.out _ _ _ _ _ h) (Or.inl ⟨by rfl, ?_⟩) ?_ ?_
  · (intro w'; go_simp; all_goals (first | with_reducible rfl | (simp [*]; done)))
  rotate_left; (simp only [Act.put, List.setIfInBounds_toArray, List.set_cons_zero, List.set_cons_succ, i64_w, i32_w]; rfl)
  refine take_ (i := 1) (N := (some 91)) (v := (.int .i64 tg)) (a' := ?_) #[true, true, false, false, false, false, false, false, false, false, false, false, false, false, false, false, false, false, false, false, false] rfl rfl (take_ofW HT_.out HW_.out (by kernel_rfl)) (fun _ _ _ h => HP.out _ _ _ _ _ h) (Or.inl ⟨by rfl, ?_⟩) hHeld ?_ ?_
  · (intro w' hs; have s4 := (blk_cell ((hs.block _ (blk_lt HA.out)).trans HA.out) 0).trans rfl; go_simp; try with_reducible rfl)
  rotate_left; (simp only [Act.put, List.setIfInBounds_toArray, List.set_cons_zero, List.set_cons_succ, i64_w, i32_w]; rfl)
  refine pure_ (i := 2) (N := (some 92)) (v := .bool true) (a' := ?_) #[true, true, true, false, false, false, false, false, false, false, false, false, false, false, false, false, false, false, false, false, false] rfl rfl (any_of HT_.out (by kernel_rfl)) (fun _ _ _ h => HP.out _ _ _ _ _ h) (Or.inl ⟨by rfl, ?_⟩) ?_ ?_
  · (intro w'; go_simp; all_goals (first | with_reducible rfl | (simp [*]; done)))
  rotate_left; (simp only [Act.put, List.setIfInBounds_toArray, List.set_cons_zero, List.set_cons_succ, i64_w, i32_w]; rfl)
  refine pure_ (i := 3) (N := (some 93)) (v := .bool true) (a' := ?_) #[true, true, true, true, false, false, false, false, false, false, false, false, false, false, false, false, false, false, false, false, false] rfl rfl (any_of HT_.out (by kernel_rfl)) (fun _ _ _ h => HP.out _ _ _ _ _ h) (Or.inl ⟨by rfl, ?_⟩) ?_ ?_
  · (intro w'; go_simp; all_goals (first | with_reducible rfl | (simp [*]; done)))
  rotate_left; (simp only [Act.put, List.setIfInBounds_toArray, List.set_cons_zero, List.set_cons_succ, i64_w, i32_w]; rfl)
  refine pure_ (i := 4) (N := (some 94)) (v := undef) (a' := ?_) #[true, true, true, true, true, false, false, false, false, false, false, false, false, false, false, false, false, false, false, false, false] rfl rfl (any_of HT_.out (by kernel_rfl)) (fun _ _ _ h => HP.out _ _ _ _ _ h) (Or.inr ⟨by rfl, rfl⟩) ?_ ?_
  rotate_left; (simp only [Act.put, List.setIfInBounds_toArray, List.set_cons_zero, List.set_cons_succ, i64_w, i32_w]; rfl)
  refine pure_ (i := 5) (N := (some 95)) (v := undef) (a' := ?_) #[true, true, true, true, true, true, false, false, false, false, false, false, false, false, false, false, false, false, false, false, false] rfl rfl (any_of HT_.out (by kernel_rfl)) (fun _ _ _ h => HP.out _ _ _ _ _ h) (Or.inr ⟨by rfl, rfl⟩) ?_ ?_
  rotate_left; (simp only [Act.put, List.setIfInBounds_toArray, List.set_cons_zero, List.set_cons_succ, i64_w, i32_w]; rfl)
  refine pure_ (i := 6) (N := (some 96)) (v := undef) (a' := ?_) #[true, true, true, true, true, true, true, false, false, false, false, false, false, false, false, false, false, false, false, false, false] rfl rfl (any_of HT_.out (by kernel_rfl)) (fun _ _ _ h => HP.out _ _ _ _ _ h) (Or.inr ⟨by rfl, rfl⟩) ?_ ?_
  rotate_left; (simp only [Act.put, List.setIfInBounds_toArray, List.set_cons_zero, List.set_cons_succ, i64_w, i32_w]; rfl)
  refine pure_ (i := 7) (N := (some 97)) (v := undef) (a' := ?_) #[true, true, true, true, true, true, true, true, false, false, false, false, false, false, false, false, false, false, false, false, false] rfl rfl (any_of HT_.out (by kernel_rfl)) (fun _ _ _ h => HP.out _ _ _ _ _ h) (Or.inr ⟨by rfl, rfl⟩) ?_ ?_
  rotate_left; (simp only [Act.put, List.setIfInBounds_toArray, List.set_cons_zero, List.set_cons_succ, i64_w, i32_w]; rfl)
  refine pure_ (i := 8) (N := (some 98)) (v := .bool true) (a' := ?_) #[true, true, true, true, true, true, true, true, true, false, false, false, false, false, false, false, false, false, false, false, false] rfl rfl (any_of HT_.out (by kernel_rfl)) (fun _ _ _ h => HP.out _ _ _ _ _ h) (Or.inl ⟨by rfl, ?_⟩) ?_ ?_
  · (intro w'; go_simp; all_goals (first | with_reducible rfl | (simp [*]; done)))
  rotate_left; (simp only [Act.put, List.setIfInBounds_toArray, List.set_cons_zero, List.set_cons_succ, i64_w, i32_w]; rfl)
  refine pure_ (i := 9) (N := (some 99)) (v := .bool true) (a' := ?_) #[true, true, true, true, true, true, true, true, true, true, false, false, false, false, false, false, false, false, false, false, false] rfl rfl (any_of HT_.out (by kernel_rfl)) (fun _ _ _ h => HP.out _ _ _ _ _ h) (Or.inl ⟨by rfl, ?_⟩) ?_ ?_
  · (intro w'; go_simp; all_goals (first | with_reducible rfl | (simp [*]; done)))
  rotate_left; (simp only [Act.put, List.setIfInBounds_toArray, List.set_cons_zero, List.set_cons_succ, i64_w, i32_w]; rfl)
  refine pure_ (i := 10) (N := (some 100)) (v := .int .i64 (i : Int)) (a' := ?_) #[true, true, true, true, true, true, true, true, true, true, true, false, false, false, false, false, false, false, false, false, false] rfl rfl (any_of HT_.out (by kernel_rfl)) (fun _ _ _ h => HP.out _ _ _ _ _ h) (Or.inl ⟨by rfl, ?_⟩) ?_ ?_
  · (intro w'; go_simp; all_goals (first | with_reducible rfl | (simp [*]; done)))
  rotate_left; (simp only [Act.put, List.setIfInBounds_toArray, List.set_cons_zero, List.set_cons_succ, i64_w, i32_w]; rfl)
  refine pure_ (i := 11) (N := (some 101)) (v := .pointer (some ⟨gy, 0, none⟩)) (a' := ?_) #[true, true, true, true, true, true, true, true, true, true, true, true, false, false, false, false, false, false, false, false, false] rfl rfl (any_of HT_.out (by kernel_rfl)) (fun _ _ _ h => HP.out _ _ _ _ _ h) (Or.inl ⟨by rfl, ?_⟩) ?_ ?_
  · (intro w'; go_simp; all_goals (first | with_reducible rfl | (simp [*]; done)))
  rotate_left; (simp only [Act.put, List.setIfInBounds_toArray, List.set_cons_zero, List.set_cons_succ, i64_w, i32_w]; rfl)
  refine pure_ (i := 12) (N := (some 102)) (v := .pointer (some ⟨gy, i * 6, none⟩)) (a' := ?_) #[true, true, true, true, true, true, true, true, true, true, true, true, true, false, false, false, false, false, false, false, false] rfl rfl (any_of HT_.out (by kernel_rfl)) (fun _ _ _ h => HP.out _ _ _ _ _ h) (Or.inl ⟨by rfl, ?_⟩) ?_ ?_
  · (intro w'; go_simp; all_goals (first | with_reducible rfl | (simp [*]; done)))
  rotate_left; (simp only [Act.put, List.setIfInBounds_toArray, List.set_cons_zero, List.set_cons_succ, i64_w, i32_w]; rfl)
  refine take_ (i := 13) (N := (some 103)) (v := (.agg #[.int .i64 x.f0, .bool x.f1.f0, .slice Y2 x.f1.f1.length Yc2, .string x.f2, .int .i64 x.f3, .slice Y5 x.f4.length Yc5])) (a' := ?_) #[true, true, true, true, true, true, true, true, true, true, true, true, true, true, false, false, false, false, false, false, false] rfl rfl (take_ofW HT_.out HW_.out (by kernel_rfl)) (fun _ _ _ h => HP.out _ _ _ _ _ h) (Or.inl ⟨by rfl, ?_⟩) hHeld ?_ ?_
  · (intro w' hs; obtain ⟨c0, c1, c2, c3, c4, c5⟩ := HYC.out; have d0 := pw_cell_below hs c0; have d1 := pw_cell_below hs c1; have d2 := pw_cell_below hs c2; have d3 := pw_cell_below hs c3; have d4 := pw_cell_below hs c4; have d5 := pw_cell_below hs c5; clear c0 c1 c2 c3 c4 c5; go_simp; try with_reducible rfl)
  rotate_left; (simp only [Act.put, List.setIfInBounds_toArray, List.set_cons_zero, List.set_cons_succ, i64_w, i32_w]; rfl)
  refine pure_ (i := 14) (N := (some 104)) (v := .int .i64 (i : Int)) (a' := ?_) #[true, true, true, true, true, true, true, true, true, true, true, true, true, true, true, false, false, false, false, false, false] rfl rfl (any_of HT_.out (by kernel_rfl)) (fun _ _ _ h => HP.out _ _ _ _ _ h) (Or.inl ⟨by rfl, ?_⟩) ?_ ?_
  · (intro w'; go_simp; all_goals (first | with_reducible rfl | (simp [*]; done)))
  rotate_left; (simp only [Act.put, List.setIfInBounds_toArray, List.set_cons_zero, List.set_cons_succ, i64_w, i32_w]; rfl)
  refine pure_ (i := 15) (N := (some 105)) (v := .pointer (some ⟨gx, 0, none⟩)) (a' := ?_) #[true, true, true, true, true, true, true, true, true, true, true, true, true, true, true, true, false, false, false, false, false] rfl rfl (any_of HT_.out (by kernel_rfl)) (fun _ _ _ h => HP.out _ _ _ _ _ h) (Or.inl ⟨by rfl, ?_⟩) ?_ ?_
  · (intro w'; go_simp; all_goals (first | with_reducible rfl | (simp [*]; done)))
  rotate_left; (simp only [Act.put, List.setIfInBounds_toArray, List.set_cons_zero, List.set_cons_succ, i64_w, i32_w]; rfl)
  refine pure_ (i := 16) (N := (some 106)) (v := .pointer (some ⟨gx, i * 6, none⟩)) (a' := ?_) #[true, true, true, true, true, true, true, true, true, true, true, true, true, true, true, true, true, false, false, false, false] rfl rfl (any_of HT_.out (by kernel_rfl)) (fun _ _ _ h => HP.out _ _ _ _ _ h) (Or.inl ⟨by rfl, ?_⟩) ?_ ?_
  · (intro w'; go_simp; all_goals (first | with_reducible rfl | (simp [*]; done)))
  rotate_left; (simp only [Act.put, List.setIfInBounds_toArray, List.set_cons_zero, List.set_cons_succ, i64_w, i32_w]; rfl)
  refine take_ (i := 17) (N := (some 107)) (v := (.agg #[.int .i64 x.f0, .bool x.f1.f0, .slice X2 x.f1.f1.length Xc2, .string x.f2, .int .i64 x.f3, .slice X5 x.f4.length Xc5])) (a' := ?_) #[true, true, true, true, true, true, true, true, true, true, true, true, true, true, true, true, true, true, false, false, false] rfl rfl (take_ofW HT_.out HW_.out (by kernel_rfl)) (fun _ _ _ h => HP.out _ _ _ _ _ h) (Or.inl ⟨by rfl, ?_⟩) hHeld ?_ ?_
  · (intro w' hs; obtain ⟨c0, c1, c2, c3, c4, c5⟩ := HXC.out; have d0 := pw_cell_below hs c0; have d1 := pw_cell_below hs c1; have d2 := pw_cell_below hs c2; have d3 := pw_cell_below hs c3; have d4 := pw_cell_below hs c4; have d5 := pw_cell_below hs c5; clear c0 c1 c2 c3 c4 c5; go_simp; try with_reducible rfl)
  rotate_left; (simp only [Act.put, List.setIfInBounds_toArray, List.set_cons_zero, List.set_cons_succ, i64_w, i32_w]; rfl)
  refine one_ (i := 18) (N := (some 108)) #[true, true, true, true, true, true, true, true, true, true, true, true, true, true, true, true, true, true, true, false, false] rfl rfl (one_of HT_.out (by kernel_rfl)) (by decide) (fun K hK => ?_)
  refine goes_ Try.func33 (by kernel_rfl) rfl #[.agg #[.int .i64 x.f0, .bool x.f1.f0, .slice Y2 x.f1.f1.length Yc2, .string x.f2, .int .i64 x.f3, .slice Y5 x.f4.length Yc5], .agg #[.int .i64 x.f0, .bool x.f1.f0, .slice X2 x.f1.f1.length Xc2, .string x.f2, .int .i64 x.f3, .slice X5 x.f4.length Xc5]] (by rfl) rfl rfl (by (try simp only [List.map_toArray, List.map_cons, List.map_nil]); first | done | rfl) ?_
  refine (sameT_calls 40 (by omega) x HLX.out.1 _ (HLX.out.2.1.below HBB.out) (HLX.out.2.2.below HBB.out)).mono ?_
  rintro e wn ⟨rfl, hb⟩
  refine ⟨_, rfl, ?_⟩
  have n0_ := Aside0.mk (below_step HBB.out hb)
  clear HBB hHeld hb
  have HBB := n0_
  clear n0_
  refine hK.out _ _ HBB.out (fun hHeld => ?_)
  clear hK K
  refine norm_ (a' := ?_) ?_ ?_
  rotate_left
  · show Act.put _ (some 108) _ = _
    simp only [Act.put, List.setIfInBounds_toArray, List.set_cons_zero, List.set_cons_succ, i64_w, i32_w]
    rfl
  refine pure_ (i := 19) (N := (some 109)) (v := .bool false) (a' := ?_) #[true, true, true, true, true, true, true, true, true, true, true, true, true, true, true, true, true, true, true, true, false] rfl rfl (any_of HT_.out (by kernel_rfl)) (fun _ _ _ h => HP.out _ _ _ _ _ h) (Or.inl ⟨by rfl, ?_⟩) ?_ ?_
  · (intro w'; go_simp; all_goals (first | with_reducible rfl | (simp [*]; done)))
  rotate_left; (simp only [Act.put, List.setIfInBounds_toArray, List.set_cons_zero, List.set_cons_succ, i64_w, i32_w]; rfl)
  refine pure_ (i := 20) (N := (some 110)) (v := .bool false) (a' := ?_) #[true, true, true, true, true, true, true, true, true, true, true, true, true, true, true, true, true, true, true, true, true] rfl rfl (any_of HT_.out (by kernel_rfl)) (fun _ _ _ h => HP.out _ _ _ _ _ h) (Or.inl ⟨by rfl, ?_⟩) ?_ ?_
  · (intro w'; go_simp; all_goals (first | with_reducible rfl | (simp [*]; done)))
  rotate_left; (simp only [Act.put, List.setIfInBounds_toArray, List.set_cons_zero, List.set_cons_succ, i64_w, i32_w]; rfl)
  refine done_ (done_of HT_.out (by kernel_rfl)) ?_
  exact HQ.out _ _ _ _ _ _ _ _ _ HBB.out
set_option maxHeartbeats 16000000 in
set_option maxRecDepth 100000 in
theorem reg15b {u0 u1 u2 u3 u5 u6 u8 u10 u11 u12 u14 u15 u16 u17 u18 u19 u20 u21 u22 u23 u24 u25 u26 u27 u28 u29 u30 u31 u32 u33 u34 u35 u36 u37 u38 u39 u40 u41 u42 u43 u44 u45 u46 u47 u48 u49 u50 u51 u52 u53 u54 u55 u56 u57 u58 u59 u60 u61 u62 u63 u64 u65 u66 u67 u68 u69 u70 u71 u72 u73 u74 u75 u76 u77 u78 u79 u80 u81 u82 u83 u84 u85 u86 u87 u88 u89 u111 u112 u113 u114 u115 u116 u117 u118 u119 u120 u121 u122 u123 u124 u125 u126 u127 u128 u129 u130 u131 u132 : Value} {u90 u91 u92 u93 u94 u95 u96 u97 u98 u99 u100 u101 u102 u103 u104 u105 u106 u107 u108 u109 u110 : Value} {Q : Exit → Act → World → Prop} (hP : ∀ c (a : Act) d v w, Q (.panic c) (a.put d v) w → Q (.panic c) a w) {Y : World} {ga gx gy i : Nat} {tg N : Int} {la : Value} (hi : i < 16) (hn : N ≠ (i : Int)) (ha : Y.heap[ga]? = some (.cells #[.int .i64 3, .int .i64 N, la] 77 (0, 0)))
    {Cx Cy : Array Value} {r s : RV} (hx : RegAt Y gx Cx) (hy : RegAt Y gy Cy) (hrx : Rd Y Cx r) (hry : Rd Y Cy s) (he : s.xs.getD i z45 = r.xs.getD i z45) (hl : Lt 40 (r.xs.getD i z45))
    (hQ : ∀ Y2 Yc2 Y5 Yc5 X2 Xc2 X5 Xc5 W1, Below Y.heap.size Y W1 → Q .normal ⟨#[u0, u1, u2, u3, .pointer (some ⟨ga, 0, none⟩), u5, u6, .pointer (some ⟨gx, 0, none⟩), u8, .pointer (some ⟨gy, 0, none⟩), u10, u11, u12, .int .i64 (i : Int), u14, u15, u16, u17, u18, u19, u20, u21, u22, u23, u24, u25, u26, u27, u28, u29, u30, u31, u32, u33, u34, u35, u36, u37, u38, u39, u40, u41, u42, u43, u44, u45, u46, u47, u48, u49, u50, u51, u52, u53, u54, u55, u56, u57, u58, u59, u60, u61, u62, u63, u64, u65, u66, u67, u68, u69, u70, u71, u72, u73, u74, u75, u76, u77, u78, u79, u80, u81, u82, u83, u84, u85, u86, u87, u88, u89, .pointer (some ⟨ga, 0, none⟩), .int .i64 3, .bool false, .bool false, .pointer (some ⟨ga, 1, none⟩), .int .i64 N, .int .i64 (i : Int), .bool true, .bool true, .bool true, .int .i64 (i : Int), .pointer (some ⟨gy, 0, none⟩), .pointer (some ⟨gy, i * 6, none⟩), .agg #[.int .i64 (r.xs.getD i z45).f0, .bool (r.xs.getD i z45).f1.f0, .slice Y2 (r.xs.getD i z45).f1.f1.length Yc2, .string (r.xs.getD i z45).f2, .int .i64 (r.xs.getD i z45).f3, .slice Y5 (r.xs.getD i z45).f4.length Yc5], .int .i64 (i : Int), .pointer (some ⟨gx, 0, none⟩), .pointer (some ⟨gx, i * 6, none⟩), .agg #[.int .i64 (r.xs.getD i z45).f0, .bool (r.xs.getD i z45).f1.f0, .slice X2 (r.xs.getD i z45).f1.f1.length Xc2, .string (r.xs.getD i z45).f2, .int .i64 (r.xs.getD i z45).f3, .slice X5 (r.xs.getD i z45).f4.length Xc5], .bool true, .bool false, .bool false, u111, u112, u113, u114, u115, u116, u117, u118, u119, u120, u121, u122, u123, u124, u125, u126, u127, u128, u129, u130, u131, u132], []⟩ W1) :
    (Code.region 15 O15 true).wp Try.prog Q ⟨#[u0, u1, u2, u3, .pointer (some ⟨ga, 0, none⟩), u5, u6, .pointer (some ⟨gx, 0, none⟩), u8, .pointer (some ⟨gy, 0, none⟩), u10, u11, u12, .int .i64 (i : Int), u14, u15, u16, u17, u18, u19, u20, u21, u22, u23, u24, u25, u26, u27, u28, u29, u30, u31, u32, u33, u34, u35, u36, u37, u38, u39, u40, u41, u42, u43, u44, u45, u46, u47, u48, u49, u50, u51, u52, u53, u54, u55, u56, u57, u58, u59, u60, u61, u62, u63, u64, u65, u66, u67, u68, u69, u70, u71, u72, u73, u74, u75, u76, u77, u78, u79, u80, u81, u82, u83, u84, u85, u86, u87, u88, u89, u90, u91, u92, u93, u94, u95, u96, u97, u98, u99, u100, u101, u102, u103, u104, u105, u106, u107, u108, u109, u110, u111, u112, u113, u114, u115, u116, u117, u118, u119, u120, u121, u122, u123, u124, u125, u126, u127, u128, u129, u130, u131, u132], []⟩ Y := by
  unfold O15
  have hu45 := Try.underlying45
  have hu70 := Try.underlying70
  have hu67 := Try.underlying67
  have hu77 := Try.underlying77
  have hi2 : (i : Int) < 16 := by omega
  have HA := Aside0.mk ha

  obtain ⟨Y2, Yc2, Y5, Yc5, ly, y0, y1, y2, y3, y4, y5⟩ := hry.reg hy i hi
  obtain ⟨X2, Xc2, X5, Xc5, lx, x0, x1, x2, x3, x4, x5⟩ := hrx.reg hx i hi
  rw [he] at ly y0 y1 y2 y3 y4 y5
  generalize r.xs.getD i z45 = x at hl ly lx y0 y1 y2 y3 y4 y5 x0 x1 x2 x3 x4 x5 hQ
  have HLX := Aside0.mk (And.intro hl (And.intro ly lx))
  have HYC := Aside0.mk (And.intro y0 (And.intro y1 (And.intro y2 (And.intro y3 (And.intro y4 y5)))))
  have HXC := Aside0.mk (And.intro x0 (And.intro x1 (And.intro x2 (And.intro x3 (And.intro x4 x5)))))
  have HQ := Aside0.mk hQ
  have HP := Aside0.mk hP
  clear ha hQ hP
  clear hx hy hrx hry he hl ly lx y0 y1 y2 y3 y4 y5 x0 x1 x2 x3 x4 x5
  have HBB := Aside0.mk (below_drew (Below.refl Y.heap.size Y))
  refine start_ (n := 21) (S := fun w' => Below Y.heap.size Y w') (ds := []) #[false, false, false, false, false, false, false, false, false, false, false, false, false, false, false, false, false, false, false, false, false] (by kernel_rfl) rfl rfl HBB.out (fun hHeld => ?_); refine with_tabW tab15 bits15 (fun HT_ HW_ => ?_)
  generalize Y.drew = wd at HBB hHeld ⊢
  refine pure_ (i := 0) (N := (some 90)) (v := .pointer (some ⟨ga, 0, none⟩)) (a' := ?_) #[true, false, false, false, false, false, false, false, false, false, false, false, false, false, false, false, false, false, false, false, false] rfl rfl (any_of HT_.out (by kernel_rfl)) (fun _ _ _ h => HP.out _ _ _ _ _ h) (Or.inl ⟨by rfl, ?_⟩) ?_ ?_
  · (intro w'; go_simp; all_goals (first | with_reducible rfl | (simp [*]; done)))
  rotate_left; (simp only [Act.put, List.setIfInBounds_toArray, List.set_cons_zero, List.set_cons_succ, i64_w, i32_w]; rfl)
  refine take_ (i := 1) (N := (some 91)) (v := (.int .i64 3)) (a' := ?_) #[true, true, false, false, false, false, false, false, false, false, false, false, false, false, false, false, false, false, false, false, false] rfl rfl (take_ofW HT_.out HW_.out (by kernel_rfl)) (fun _ _ _ h => HP.out _ _ _ _ _ h) (Or.inl ⟨by rfl, ?_⟩) hHeld ?_ ?_
  · (intro w' hs; have s4 := (blk_cell ((hs.block _ (blk_lt HA.out)).trans HA.out) 0).trans rfl; go_simp; try with_reducible rfl)
  rotate_left; (simp only [Act.put, List.setIfInBounds_toArray, List.set_cons_zero, List.set_cons_succ, i64_w, i32_w]; rfl)
  refine pure_ (i := 2) (N := (some 92)) (v := .bool false) (a' := ?_) #[true, true, true, false, false, false, false, false, false, false, false, false, false, false, false, false, false, false, false, false, false] rfl rfl (any_of HT_.out (by kernel_rfl)) (fun _ _ _ h => HP.out _ _ _ _ _ h) (Or.inl ⟨by rfl, ?_⟩) ?_ ?_
  · (intro w'; go_simp; all_goals (first | with_reducible rfl | (simp [*]; done)))
  rotate_left; (simp only [Act.put, List.setIfInBounds_toArray, List.set_cons_zero, List.set_cons_succ, i64_w, i32_w]; rfl)
  refine pure_ (i := 3) (N := (some 93)) (v := .bool false) (a' := ?_) #[true, true, true, true, false, false, false, false, false, false, false, false, false, false, false, false, false, false, false, false, false] rfl rfl (any_of HT_.out (by kernel_rfl)) (fun _ _ _ h => HP.out _ _ _ _ _ h) (Or.inl ⟨by rfl, ?_⟩) ?_ ?_
  · (intro w'; go_simp; all_goals (first | with_reducible rfl | (simp [*]; done)))
  rotate_left; (simp only [Act.put, List.setIfInBounds_toArray, List.set_cons_zero, List.set_cons_succ, i64_w, i32_w]; rfl)
  refine pure_ (i := 4) (N := (some 94)) (v := .pointer (some ⟨ga, 1, none⟩)) (a' := ?_) #[true, true, true, true, true, false, false, false, false, false, false, false, false, false, false, false, false, false, false, false, false] rfl rfl (any_of HT_.out (by kernel_rfl)) (fun _ _ _ h => HP.out _ _ _ _ _ h) (Or.inl ⟨by rfl, ?_⟩) ?_ ?_
  · (intro w'; go_simp; all_goals (first | with_reducible rfl | (simp [*]; done)))
  rotate_left; (simp only [Act.put, List.setIfInBounds_toArray, List.set_cons_zero, List.set_cons_succ, i64_w, i32_w]; rfl)
  refine take_ (i := 5) (N := (some 95)) (v := (.int .i64 N)) (a' := ?_) #[true, true, true, true, true, true, false, false, false, false, false, false, false, false, false, false, false, false, false, false, false] rfl rfl (take_ofW HT_.out HW_.out (by kernel_rfl)) (fun _ _ _ h => HP.out _ _ _ _ _ h) (Or.inl ⟨by rfl, ?_⟩) hHeld ?_ ?_
  · (intro w' hs; have s4 := (blk_cell ((hs.block _ (blk_lt HA.out)).trans HA.out) 1).trans rfl; go_simp; try with_reducible rfl)
  rotate_left; (simp only [Act.put, List.setIfInBounds_toArray, List.set_cons_zero, List.set_cons_succ, i64_w, i32_w]; rfl)
  refine pure_ (i := 6) (N := (some 96)) (v := .int .i64 (i : Int)) (a' := ?_) #[true, true, true, true, true, true, true, false, false, false, false, false, false, false, false, false, false, false, false, false, false] rfl rfl (any_of HT_.out (by kernel_rfl)) (fun _ _ _ h => HP.out _ _ _ _ _ h) (Or.inl ⟨by rfl, ?_⟩) ?_ ?_
  · (intro w'; go_simp; all_goals (first | with_reducible rfl | (simp [*]; done)))
  rotate_left; (simp only [Act.put, List.setIfInBounds_toArray, List.set_cons_zero, List.set_cons_succ, i64_w, i32_w]; rfl)
  refine pure_ (i := 7) (N := (some 97)) (v := .bool true) (a' := ?_) #[true, true, true, true, true, true, true, true, false, false, false, false, false, false, false, false, false, false, false, false, false] rfl rfl (any_of HT_.out (by kernel_rfl)) (fun _ _ _ h => HP.out _ _ _ _ _ h) (Or.inl ⟨by rfl, ?_⟩) ?_ ?_
  · (intro w'; go_simp; all_goals (first | with_reducible rfl | (simp [*]; done)))
  rotate_left; (simp only [Act.put, List.setIfInBounds_toArray, List.set_cons_zero, List.set_cons_succ, i64_w, i32_w]; rfl)
  refine pure_ (i := 8) (N := (some 98)) (v := .bool true) (a' := ?_) #[true, true, true, true, true, true, true, true, true, false, false, false, false, false, false, false, false, false, false, false, false] rfl rfl (any_of HT_.out (by kernel_rfl)) (fun _ _ _ h => HP.out _ _ _ _ _ h) (Or.inl ⟨by rfl, ?_⟩) ?_ ?_
  · (intro w'; go_simp; all_goals (first | with_reducible rfl | (simp [*]; done)))
  rotate_left; (simp only [Act.put, List.setIfInBounds_toArray, List.set_cons_zero, List.set_cons_succ, i64_w, i32_w]; rfl)
  refine pure_ (i := 9) (N := (some 99)) (v := .bool true) (a' := ?_) #[true, true, true, true, true, true, true, true, true, true, false, false, false, false, false, false, false, false, false, false, false] rfl rfl (any_of HT_.out (by kernel_rfl)) (fun _ _ _ h => HP.out _ _ _ _ _ h) (Or.inl ⟨by rfl, ?_⟩) ?_ ?_
  · (intro w'; go_simp; all_goals (first | with_reducible rfl | (simp [*]; done)))
  rotate_left; (simp only [Act.put, List.setIfInBounds_toArray, List.set_cons_zero, List.set_cons_succ, i64_w, i32_w]; rfl)
  refine pure_ (i := 10) (N := (some 100)) (v := .int .i64 (i : Int)) (a' := ?_) #[true, true, true, true, true, true, true, true, true, true, true, false, false, false, false, false, false, false, false, false, false] rfl rfl (any_of HT_.out (by kernel_rfl)) (fun _ _ _ h => HP.out _ _ _ _ _ h) (Or.inl ⟨by rfl, ?_⟩) ?_ ?_
  · (intro w'; go_simp; all_goals (first | with_reducible rfl | (simp [*]; done)))
  rotate_left; (simp only [Act.put, List.setIfInBounds_toArray, List.set_cons_zero, List.set_cons_succ, i64_w, i32_w]; rfl)
  refine pure_ (i := 11) (N := (some 101)) (v := .pointer (some ⟨gy, 0, none⟩)) (a' := ?_) #[true, true, true, true, true, true, true, true, true, true, true, true, false, false, false, false, false, false, false, false, false] rfl rfl (any_of HT_.out (by kernel_rfl)) (fun _ _ _ h => HP.out _ _ _ _ _ h) (Or.inl ⟨by rfl, ?_⟩) ?_ ?_
  · (intro w'; go_simp; all_goals (first | with_reducible rfl | (simp [*]; done)))
  rotate_left; (simp only [Act.put, List.setIfInBounds_toArray, List.set_cons_zero, List.set_cons_succ, i64_w, i32_w]; rfl)
  refine pure_ (i := 12) (N := (some 102)) (v := .pointer (some ⟨gy, i * 6, none⟩)) (a' := ?_) #[true, true, true, true, true, true, true, true, true, true, true, true, true, false, false, false, false, false, false, false, false] rfl rfl (any_of HT_.out (by kernel_rfl)) (fun _ _ _ h => HP.out _ _ _ _ _ h) (Or.inl ⟨by rfl, ?_⟩) ?_ ?_
  · (intro w'; go_simp; all_goals (first | with_reducible rfl | (simp [*]; done)))
  rotate_left; (simp only [Act.put, List.setIfInBounds_toArray, List.set_cons_zero, List.set_cons_succ, i64_w, i32_w]; rfl)
  refine take_ (i := 13) (N := (some 103)) (v := (.agg #[.int .i64 x.f0, .bool x.f1.f0, .slice Y2 x.f1.f1.length Yc2, .string x.f2, .int .i64 x.f3, .slice Y5 x.f4.length Yc5])) (a' := ?_) #[true, true, true, true, true, true, true, true, true, true, true, true, true, true, false, false, false, false, false, false, false] rfl rfl (take_ofW HT_.out HW_.out (by kernel_rfl)) (fun _ _ _ h => HP.out _ _ _ _ _ h) (Or.inl ⟨by rfl, ?_⟩) hHeld ?_ ?_
  · (intro w' hs; obtain ⟨c0, c1, c2, c3, c4, c5⟩ := HYC.out; have d0 := pw_cell_below hs c0; have d1 := pw_cell_below hs c1; have d2 := pw_cell_below hs c2; have d3 := pw_cell_below hs c3; have d4 := pw_cell_below hs c4; have d5 := pw_cell_below hs c5; clear c0 c1 c2 c3 c4 c5; go_simp; try with_reducible rfl)
  rotate_left; (simp only [Act.put, List.setIfInBounds_toArray, List.set_cons_zero, List.set_cons_succ, i64_w, i32_w]; rfl)
  refine pure_ (i := 14) (N := (some 104)) (v := .int .i64 (i : Int)) (a' := ?_) #[true, true, true, true, true, true, true, true, true, true, true, true, true, true, true, false, false, false, false, false, false] rfl rfl (any_of HT_.out (by kernel_rfl)) (fun _ _ _ h => HP.out _ _ _ _ _ h) (Or.inl ⟨by rfl, ?_⟩) ?_ ?_
  · (intro w'; go_simp; all_goals (first | with_reducible rfl | (simp [*]; done)))
  rotate_left; (simp only [Act.put, List.setIfInBounds_toArray, List.set_cons_zero, List.set_cons_succ, i64_w, i32_w]; rfl)
  refine pure_ (i := 15) (N := (some 105)) (v := .pointer (some ⟨gx, 0, none⟩)) (a' := ?_) #[true, true, true, true, true, true, true, true, true, true, true, true, true, true, true, true, false, false, false, false, false] rfl rfl (any_of HT_.out (by kernel_rfl)) (fun _ _ _ h => HP.out _ _ _ _ _ h) (Or.inl ⟨by rfl, ?_⟩) ?_ ?_
  · (intro w'; go_simp; all_goals (first | with_reducible rfl | (simp [*]; done)))
  rotate_left; (simp only [Act.put, List.setIfInBounds_toArray, List.set_cons_zero, List.set_cons_succ, i64_w, i32_w]; rfl)
  refine pure_ (i := 16) (N := (some 106)) (v := .pointer (some ⟨gx, i * 6, none⟩)) (a' := ?_) #[true, true, true, true, true, true, true, true, true, true, true, true, true, true, true, true, true, false, false, false, false] rfl rfl (any_of HT_.out (by kernel_rfl)) (fun _ _ _ h => HP.out _ _ _ _ _ h) (Or.inl ⟨by rfl, ?_⟩) ?_ ?_
  · (intro w'; go_simp; all_goals (first | with_reducible rfl | (simp [*]; done)))
  rotate_left; (simp only [Act.put, List.setIfInBounds_toArray, List.set_cons_zero, List.set_cons_succ, i64_w, i32_w]; rfl)
  refine take_ (i := 17) (N := (some 107)) (v := (.agg #[.int .i64 x.f0, .bool x.f1.f0, .slice X2 x.f1.f1.length Xc2, .string x.f2, .int .i64 x.f3, .slice X5 x.f4.length Xc5])) (a' := ?_) #[true, true, true, true, true, true, true, true, true, true, true, true, true, true, true, true, true, true, false, false, false] rfl rfl (take_ofW HT_.out HW_.out (by kernel_rfl)) (fun _ _ _ h => HP.out _ _ _ _ _ h) (Or.inl ⟨by rfl, ?_⟩) hHeld ?_ ?_
  · (intro w' hs; obtain ⟨c0, c1, c2, c3, c4, c5⟩ := HXC.out; have d0 := pw_cell_below hs c0; have d1 := pw_cell_below hs c1; have d2 := pw_cell_below hs c2; have d3 := pw_cell_below hs c3; have d4 := pw_cell_below hs c4; have d5 := pw_cell_below hs c5; clear c0 c1 c2 c3 c4 c5; go_simp; try with_reducible rfl)
  rotate_left; (simp only [Act.put, List.setIfInBounds_toArray, List.set_cons_zero, List.set_cons_succ, i64_w, i32_w]; rfl)
  refine one_ (i := 18) (N := (some 108)) #[true, true, true, true, true, true, true, true, true, true, true, true, true, true, true, true, true, true, true, false, false] rfl rfl (one_of HT_.out (by kernel_rfl)) (by decide) (fun K hK => ?_)
  refine goes_ Try.func33 (by kernel_rfl) rfl #[.agg #[.int .i64 x.f0, .bool x.f1.f0, .slice Y2 x.f1.f1.length Yc2, .string x.f2, .int .i64 x.f3, .slice Y5 x.f4.length Yc5], .agg #[.int .i64 x.f0, .bool x.f1.f0, .slice X2 x.f1.f1.length Xc2, .string x.f2, .int .i64 x.f3, .slice X5 x.f4.length Xc5]] (by rfl) rfl rfl (by (try simp only [List.map_toArray, List.map_cons, List.map_nil]); first | done | rfl) ?_
  refine (sameT_calls 40 (by omega) x HLX.out.1 _ (HLX.out.2.1.below HBB.out) (HLX.out.2.2.below HBB.out)).mono ?_
  rintro e wn ⟨rfl, hb⟩
  refine ⟨_, rfl, ?_⟩
  have n0_ := Aside0.mk (below_step HBB.out hb)
  clear HBB hHeld hb
  have HBB := n0_
  clear n0_
  refine hK.out _ _ HBB.out (fun hHeld => ?_)
  clear hK K
  refine norm_ (a' := ?_) ?_ ?_
  rotate_left
  · show Act.put _ (some 108) _ = _
    simp only [Act.put, List.setIfInBounds_toArray, List.set_cons_zero, List.set_cons_succ, i64_w, i32_w]
    rfl
  refine pure_ (i := 19) (N := (some 109)) (v := .bool false) (a' := ?_) #[true, true, true, true, true, true, true, true, true, true, true, true, true, true, true, true, true, true, true, true, false] rfl rfl (any_of HT_.out (by kernel_rfl)) (fun _ _ _ h => HP.out _ _ _ _ _ h) (Or.inl ⟨by rfl, ?_⟩) ?_ ?_
  · (intro w'; go_simp; all_goals (first | with_reducible rfl | (simp [*]; done)))
  rotate_left; (simp only [Act.put, List.setIfInBounds_toArray, List.set_cons_zero, List.set_cons_succ, i64_w, i32_w]; rfl)
  refine pure_ (i := 20) (N := (some 110)) (v := .bool false) (a' := ?_) #[true, true, true, true, true, true, true, true, true, true, true, true, true, true, true, true, true, true, true, true, true] rfl rfl (any_of HT_.out (by kernel_rfl)) (fun _ _ _ h => HP.out _ _ _ _ _ h) (Or.inl ⟨by rfl, ?_⟩) ?_ ?_
  · (intro w'; go_simp; all_goals (first | with_reducible rfl | (simp [*]; done)))
  rotate_left; (simp only [Act.put, List.setIfInBounds_toArray, List.set_cons_zero, List.set_cons_succ, i64_w, i32_w]; rfl)
  refine done_ (done_of HT_.out (by kernel_rfl)) ?_
  exact HQ.out _ _ _ _ _ _ _ _ _ HBB.out
set_option maxHeartbeats 16000000 in
set_option maxRecDepth 100000 in
theorem reg15c {u0 u1 u2 u3 u5 u6 u8 u10 u11 u12 u14 u15 u16 u17 u18 u19 u20 u21 u22 u23 u24 u25 u26 u27 u28 u29 u30 u31 u32 u33 u34 u35 u36 u37 u38 u39 u40 u41 u42 u43 u44 u45 u46 u47 u48 u49 u50 u51 u52 u53 u54 u55 u56 u57 u58 u59 u60 u61 u62 u63 u64 u65 u66 u67 u68 u69 u70 u71 u72 u73 u74 u75 u76 u77 u78 u79 u80 u81 u82 u83 u84 u85 u86 u87 u88 u89 u111 u112 u113 u114 u115 u116 u117 u118 u119 u120 u121 u122 u123 u124 u125 u126 u127 u128 u129 u130 u131 u132 : Value} {u90 u91 u92 u93 u94 u95 u96 u97 u98 u99 u100 u101 u102 u103 u104 u105 u106 u107 u108 u109 u110 : Value} {Q : Exit → Act → World → Prop} (hP : ∀ c (a : Act) d v w, Q (.panic c) (a.put d v) w → Q (.panic c) a w) {Y : World} {ga gx gy i : Nat} {tg N : Int} {la : Value} (hi : i < 16)  (ha : Y.heap[ga]? = some (.cells #[.int .i64 3, .int .i64 (i : Int), la] 77 (0, 0)))
    (hQ : ∀ W1, Below Y.heap.size Y W1 → Q .normal ⟨#[u0, u1, u2, u3, .pointer (some ⟨ga, 0, none⟩), u5, u6, .pointer (some ⟨gx, 0, none⟩), u8, .pointer (some ⟨gy, 0, none⟩), u10, u11, u12, .int .i64 (i : Int), u14, u15, u16, u17, u18, u19, u20, u21, u22, u23, u24, u25, u26, u27, u28, u29, u30, u31, u32, u33, u34, u35, u36, u37, u38, u39, u40, u41, u42, u43, u44, u45, u46, u47, u48, u49, u50, u51, u52, u53, u54, u55, u56, u57, u58, u59, u60, u61, u62, u63, u64, u65, u66, u67, u68, u69, u70, u71, u72, u73, u74, u75, u76, u77, u78, u79, u80, u81, u82, u83, u84, u85, u86, u87, u88, u89, .pointer (some ⟨ga, 0, none⟩), .int .i64 3, .bool false, .bool false, .pointer (some ⟨ga, 1, none⟩), .int .i64 (i : Int), .int .i64 (i : Int), .bool false, .bool false, .bool false, undef, undef, undef, undef, undef, undef, undef, undef, undef, undef, .bool false, u111, u112, u113, u114, u115, u116, u117, u118, u119, u120, u121, u122, u123, u124, u125, u126, u127, u128, u129, u130, u131, u132], []⟩ W1) :
    (Code.region 15 O15 true).wp Try.prog Q ⟨#[u0, u1, u2, u3, .pointer (some ⟨ga, 0, none⟩), u5, u6, .pointer (some ⟨gx, 0, none⟩), u8, .pointer (some ⟨gy, 0, none⟩), u10, u11, u12, .int .i64 (i : Int), u14, u15, u16, u17, u18, u19, u20, u21, u22, u23, u24, u25, u26, u27, u28, u29, u30, u31, u32, u33, u34, u35, u36, u37, u38, u39, u40, u41, u42, u43, u44, u45, u46, u47, u48, u49, u50, u51, u52, u53, u54, u55, u56, u57, u58, u59, u60, u61, u62, u63, u64, u65, u66, u67, u68, u69, u70, u71, u72, u73, u74, u75, u76, u77, u78, u79, u80, u81, u82, u83, u84, u85, u86, u87, u88, u89, u90, u91, u92, u93, u94, u95, u96, u97, u98, u99, u100, u101, u102, u103, u104, u105, u106, u107, u108, u109, u110, u111, u112, u113, u114, u115, u116, u117, u118, u119, u120, u121, u122, u123, u124, u125, u126, u127, u128, u129, u130, u131, u132], []⟩ Y := by
  unfold O15
  have hu45 := Try.underlying45
  have hu70 := Try.underlying70
  have hu67 := Try.underlying67
  have hu77 := Try.underlying77
  have hi2 : (i : Int) < 16 := by omega
  have HA := Aside0.mk ha

  have HQ := Aside0.mk hQ
  have HP := Aside0.mk hP
  clear ha hQ hP
  have HBB := Aside0.mk (below_drew (Below.refl Y.heap.size Y))
  refine start_ (n := 21) (S := fun w' => Below Y.heap.size Y w') (ds := []) #[false, false, false, false, false, false, false, false, false, false, false, false, false, false, false, false, false, false, false, false, false] (by kernel_rfl) rfl rfl HBB.out (fun hHeld => ?_); refine with_tabW tab15 bits15 (fun HT_ HW_ => ?_)
  generalize Y.drew = wd at HBB hHeld ⊢
  refine pure_ (i := 0) (N := (some 90)) (v := .pointer (some ⟨ga, 0, none⟩)) (a' := ?_) #[true, false, false, false, false, false, false, false, false, false, false, false, false, false, false, false, false, false, false, false, false] rfl rfl (any_of HT_.out (by kernel_rfl)) (fun _ _ _ h => HP.out _ _ _ _ _ h) (Or.inl ⟨by rfl, ?_⟩) ?_ ?_
  · (intro w'; go_simp; all_goals (first | with_reducible rfl | (simp [*]; done)))
  rotate_left; (simp only [Act.put, List.setIfInBounds_toArray, List.set_cons_zero, List.set_cons_succ, i64_w, i32_w]; rfl)
  refine take_ (i := 1) (N := (some 91)) (v := (.int .i64 3)) (a' := ?_) #[true, true, false, false, false, false, false, false, false, false, false, false, false, false, false, false, false, false, false, false, false] rfl rfl (take_ofW HT_.out HW_.out (by kernel_rfl)) (fun _ _ _ h => HP.out _ _ _ _ _ h) (Or.inl ⟨by rfl, ?_⟩) hHeld ?_ ?_
  · (intro w' hs; have s4 := (blk_cell ((hs.block _ (blk_lt HA.out)).trans HA.out) 0).trans rfl; go_simp; try with_reducible rfl)
  rotate_left; (simp only [Act.put, List.setIfInBounds_toArray, List.set_cons_zero, List.set_cons_succ, i64_w, i32_w]; rfl)
  refine pure_ (i := 2) (N := (some 92)) (v := .bool false) (a' := ?_) #[true, true, true, false, false, false, false, false, false, false, false, false, false, false, false, false, false, false, false, false, false] rfl rfl (any_of HT_.out (by kernel_rfl)) (fun _ _ _ h => HP.out _ _ _ _ _ h) (Or.inl ⟨by rfl, ?_⟩) ?_ ?_
  · (intro w'; go_simp; all_goals (first | with_reducible rfl | (simp [*]; done)))
  rotate_left; (simp only [Act.put, List.setIfInBounds_toArray, List.set_cons_zero, List.set_cons_succ, i64_w, i32_w]; rfl)
  refine pure_ (i := 3) (N := (some 93)) (v := .bool false) (a' := ?_) #[true, true, true, true, false, false, false, false, false, false, false, false, false, false, false, false, false, false, false, false, false] rfl rfl (any_of HT_.out (by kernel_rfl)) (fun _ _ _ h => HP.out _ _ _ _ _ h) (Or.inl ⟨by rfl, ?_⟩) ?_ ?_
  · (intro w'; go_simp; all_goals (first | with_reducible rfl | (simp [*]; done)))
  rotate_left; (simp only [Act.put, List.setIfInBounds_toArray, List.set_cons_zero, List.set_cons_succ, i64_w, i32_w]; rfl)
  refine pure_ (i := 4) (N := (some 94)) (v := .pointer (some ⟨ga, 1, none⟩)) (a' := ?_) #[true, true, true, true, true, false, false, false, false, false, false, false, false, false, false, false, false, false, false, false, false] rfl rfl (any_of HT_.out (by kernel_rfl)) (fun _ _ _ h => HP.out _ _ _ _ _ h) (Or.inl ⟨by rfl, ?_⟩) ?_ ?_
  · (intro w'; go_simp; all_goals (first | with_reducible rfl | (simp [*]; done)))
  rotate_left; (simp only [Act.put, List.setIfInBounds_toArray, List.set_cons_zero, List.set_cons_succ, i64_w, i32_w]; rfl)
  refine take_ (i := 5) (N := (some 95)) (v := (.int .i64 (i : Int))) (a' := ?_) #[true, true, true, true, true, true, false, false, false, false, false, false, false, false, false, false, false, false, false, false, false] rfl rfl (take_ofW HT_.out HW_.out (by kernel_rfl)) (fun _ _ _ h => HP.out _ _ _ _ _ h) (Or.inl ⟨by rfl, ?_⟩) hHeld ?_ ?_
  · (intro w' hs; have s4 := (blk_cell ((hs.block _ (blk_lt HA.out)).trans HA.out) 1).trans rfl; go_simp; try with_reducible rfl)
  rotate_left; (simp only [Act.put, List.setIfInBounds_toArray, List.set_cons_zero, List.set_cons_succ, i64_w, i32_w]; rfl)
  refine pure_ (i := 6) (N := (some 96)) (v := .int .i64 (i : Int)) (a' := ?_) #[true, true, true, true, true, true, true, false, false, false, false, false, false, false, false, false, false, false, false, false, false] rfl rfl (any_of HT_.out (by kernel_rfl)) (fun _ _ _ h => HP.out _ _ _ _ _ h) (Or.inl ⟨by rfl, ?_⟩) ?_ ?_
  · (intro w'; go_simp; all_goals (first | with_reducible rfl | (simp [*]; done)))
  rotate_left; (simp only [Act.put, List.setIfInBounds_toArray, List.set_cons_zero, List.set_cons_succ, i64_w, i32_w]; rfl)
  refine pure_ (i := 7) (N := (some 97)) (v := .bool false) (a' := ?_) #[true, true, true, true, true, true, true, true, false, false, false, false, false, false, false, false, false, false, false, false, false] rfl rfl (any_of HT_.out (by kernel_rfl)) (fun _ _ _ h => HP.out _ _ _ _ _ h) (Or.inl ⟨by rfl, ?_⟩) ?_ ?_
  · (intro w'; go_simp; all_goals (first | with_reducible rfl | (simp [*]; done)))
  rotate_left; (simp only [Act.put, List.setIfInBounds_toArray, List.set_cons_zero, List.set_cons_succ, i64_w, i32_w]; rfl)
  refine pure_ (i := 8) (N := (some 98)) (v := .bool false) (a' := ?_) #[true, true, true, true, true, true, true, true, true, false, false, false, false, false, false, false, false, false, false, false, false] rfl rfl (any_of HT_.out (by kernel_rfl)) (fun _ _ _ h => HP.out _ _ _ _ _ h) (Or.inl ⟨by rfl, ?_⟩) ?_ ?_
  · (intro w'; go_simp; all_goals (first | with_reducible rfl | (simp [*]; done)))
  rotate_left; (simp only [Act.put, List.setIfInBounds_toArray, List.set_cons_zero, List.set_cons_succ, i64_w, i32_w]; rfl)
  refine pure_ (i := 9) (N := (some 99)) (v := .bool false) (a' := ?_) #[true, true, true, true, true, true, true, true, true, true, false, false, false, false, false, false, false, false, false, false, false] rfl rfl (any_of HT_.out (by kernel_rfl)) (fun _ _ _ h => HP.out _ _ _ _ _ h) (Or.inl ⟨by rfl, ?_⟩) ?_ ?_
  · (intro w'; go_simp; all_goals (first | with_reducible rfl | (simp [*]; done)))
  rotate_left; (simp only [Act.put, List.setIfInBounds_toArray, List.set_cons_zero, List.set_cons_succ, i64_w, i32_w]; rfl)
  refine pure_ (i := 10) (N := (some 100)) (v := undef) (a' := ?_) #[true, true, true, true, true, true, true, true, true, true, true, false, false, false, false, false, false, false, false, false, false] rfl rfl (any_of HT_.out (by kernel_rfl)) (fun _ _ _ h => HP.out _ _ _ _ _ h) (Or.inr ⟨by rfl, rfl⟩) ?_ ?_
  rotate_left; (simp only [Act.put, List.setIfInBounds_toArray, List.set_cons_zero, List.set_cons_succ, i64_w, i32_w]; rfl)
  refine pure_ (i := 11) (N := (some 101)) (v := undef) (a' := ?_) #[true, true, true, true, true, true, true, true, true, true, true, true, false, false, false, false, false, false, false, false, false] rfl rfl (any_of HT_.out (by kernel_rfl)) (fun _ _ _ h => HP.out _ _ _ _ _ h) (Or.inr ⟨by rfl, rfl⟩) ?_ ?_
  rotate_left; (simp only [Act.put, List.setIfInBounds_toArray, List.set_cons_zero, List.set_cons_succ, i64_w, i32_w]; rfl)
  refine pure_ (i := 12) (N := (some 102)) (v := undef) (a' := ?_) #[true, true, true, true, true, true, true, true, true, true, true, true, true, false, false, false, false, false, false, false, false] rfl rfl (any_of HT_.out (by kernel_rfl)) (fun _ _ _ h => HP.out _ _ _ _ _ h) (Or.inr ⟨by rfl, rfl⟩) ?_ ?_
  rotate_left; (simp only [Act.put, List.setIfInBounds_toArray, List.set_cons_zero, List.set_cons_succ, i64_w, i32_w]; rfl)
  refine pure_ (i := 13) (N := (some 103)) (v := undef) (a' := ?_) #[true, true, true, true, true, true, true, true, true, true, true, true, true, true, false, false, false, false, false, false, false] rfl rfl (any_of HT_.out (by kernel_rfl)) (fun _ _ _ h => HP.out _ _ _ _ _ h) (Or.inr ⟨by rfl, rfl⟩) ?_ ?_
  rotate_left; (simp only [Act.put, List.setIfInBounds_toArray, List.set_cons_zero, List.set_cons_succ, i64_w, i32_w]; rfl)
  refine pure_ (i := 14) (N := (some 104)) (v := undef) (a' := ?_) #[true, true, true, true, true, true, true, true, true, true, true, true, true, true, true, false, false, false, false, false, false] rfl rfl (any_of HT_.out (by kernel_rfl)) (fun _ _ _ h => HP.out _ _ _ _ _ h) (Or.inr ⟨by rfl, rfl⟩) ?_ ?_
  rotate_left; (simp only [Act.put, List.setIfInBounds_toArray, List.set_cons_zero, List.set_cons_succ, i64_w, i32_w]; rfl)
  refine pure_ (i := 15) (N := (some 105)) (v := undef) (a' := ?_) #[true, true, true, true, true, true, true, true, true, true, true, true, true, true, true, true, false, false, false, false, false] rfl rfl (any_of HT_.out (by kernel_rfl)) (fun _ _ _ h => HP.out _ _ _ _ _ h) (Or.inr ⟨by rfl, rfl⟩) ?_ ?_
  rotate_left; (simp only [Act.put, List.setIfInBounds_toArray, List.set_cons_zero, List.set_cons_succ, i64_w, i32_w]; rfl)
  refine pure_ (i := 16) (N := (some 106)) (v := undef) (a' := ?_) #[true, true, true, true, true, true, true, true, true, true, true, true, true, true, true, true, true, false, false, false, false] rfl rfl (any_of HT_.out (by kernel_rfl)) (fun _ _ _ h => HP.out _ _ _ _ _ h) (Or.inr ⟨by rfl, rfl⟩) ?_ ?_
  rotate_left; (simp only [Act.put, List.setIfInBounds_toArray, List.set_cons_zero, List.set_cons_succ, i64_w, i32_w]; rfl)
  refine pure_ (i := 17) (N := (some 107)) (v := undef) (a' := ?_) #[true, true, true, true, true, true, true, true, true, true, true, true, true, true, true, true, true, true, false, false, false] rfl rfl (any_of HT_.out (by kernel_rfl)) (fun _ _ _ h => HP.out _ _ _ _ _ h) (Or.inr ⟨by rfl, rfl⟩) ?_ ?_
  rotate_left; (simp only [Act.put, List.setIfInBounds_toArray, List.set_cons_zero, List.set_cons_succ, i64_w, i32_w]; rfl)
  refine pure_ (i := 18) (N := (some 108)) (v := undef) (a' := ?_) #[true, true, true, true, true, true, true, true, true, true, true, true, true, true, true, true, true, true, true, false, false] rfl rfl (any_of HT_.out (by kernel_rfl)) (fun _ _ _ h => HP.out _ _ _ _ _ h) (Or.inr ⟨by rfl, rfl⟩) ?_ ?_
  rotate_left; (simp only [Act.put, List.setIfInBounds_toArray, List.set_cons_zero, List.set_cons_succ, i64_w, i32_w]; rfl)
  refine pure_ (i := 19) (N := (some 109)) (v := undef) (a' := ?_) #[true, true, true, true, true, true, true, true, true, true, true, true, true, true, true, true, true, true, true, true, false] rfl rfl (any_of HT_.out (by kernel_rfl)) (fun _ _ _ h => HP.out _ _ _ _ _ h) (Or.inr ⟨by rfl, rfl⟩) ?_ ?_
  rotate_left; (simp only [Act.put, List.setIfInBounds_toArray, List.set_cons_zero, List.set_cons_succ, i64_w, i32_w]; rfl)
  refine pure_ (i := 20) (N := (some 110)) (v := .bool false) (a' := ?_) #[true, true, true, true, true, true, true, true, true, true, true, true, true, true, true, true, true, true, true, true, true] rfl rfl (any_of HT_.out (by kernel_rfl)) (fun _ _ _ h => HP.out _ _ _ _ _ h) (Or.inl ⟨by rfl, ?_⟩) ?_ ?_
  · (intro w'; go_simp; all_goals (first | with_reducible rfl | (simp [*]; done)))
  rotate_left; (simp only [Act.put, List.setIfInBounds_toArray, List.set_cons_zero, List.set_cons_succ, i64_w, i32_w]; rfl)
  refine done_ (done_of HT_.out (by kernel_rfl)) ?_
  exact HQ.out _ HBB.out
end Go.Proofs.YthdmacdeefohkaaRp15
namespace Go.Proofs.YthdmacdeefohkaaRpW
open Go.RowKit Go.Proofs.YthdmacdeefohkaaW.PrintWords Go.Proofs.YthdmacdeefohkaaW.PrintLast Go.Proofs.YthdmacdeefohkaaW.PrintMore Go.Proofs.YthdmacdeefohkaaMem Go.Proofs.YthdmacdeefohkaaLeaf Go.Proofs.YthdmacdeefohkaaBits Go.Proofs.Ythdmacdeefohkaa.PMa Go.Proofs.YthdmacdeefohkaaMTerm Go.Proofs.YthdmacdeefohkaaMVal Go.Proofs.YthdmacdeefohkaaCopyK Go.Proofs.YthdmacdeefohkaaTc Go.Proofs.YthdmacdeefohkaaRv Go.Proofs.YthdmacdeefohkaaOf Go.Proofs.YthdmacdeefohkaaPt Go.Proofs.YthdmacdeefohkaaRegs Go.Proofs.YthdmacdeefohkaaPx Go.Proofs.YthdmacdeefohkaaPy Go.Proofs.YthdmacdeefohkaaArgs Go.Proofs.YthdmacdeefohkaaFa Go.Proofs.YthdmacdeefohkaaFw Go.Proofs.YthdmacdeefohkaaStands Go.Proofs.YthdmacdeefohkaaSource Go.Proofs.YthdmacdeefohkaaEq Go.Proofs.YthdmacdeefohkaaSm Go.Proofs.YthdmacdeefohkaaAwake21 Go.Proofs.YthdmacdeefohkaaIntT Go.Proofs.YthdmacdeefohkaaRp3 Go.Proofs.YthdmacdeefohkaaRpL Go.Proofs.YthdmacdeefohkaaRp15 Go.Proofs
set_option linter.unusedVariables false
set_option linter.unusedSimpArgs false
def Ok (w : World) (e : Ending) (w' : World) : Prop := e = .returned (.bool true) ∧ Below w.heap.size w w'
/-- The law's three boxes. -/
structure In3 (w W : World) (g ga gt : Nat) (cs ar ct : Array Value) : Prop where
  b0 : W.heap[g]? = some (.cells cs 92 (0, 0))
  b1 : W.heap[ga]? = some (.cells ar 77 (0, 0))
  b2 : W.heap[gt]? = some (.cells ct 45 (0, 0))
  be : Below w.heap.size w W
theorem In3.below {w W W1 : World} {g ga gt : Nat} {cs ar ct : Array Value} (h : In3 w W g ga gt cs ar ct) (hb : Below W.heap.size W W1) : In3 w W1 g ga gt cs ar ct :=
  ⟨(hb.block _ (blk_lt h.b0)).trans h.b0, (hb.block _ (blk_lt h.b1)).trans h.b1, (hb.block _ (blk_lt h.b2)).trans h.b2, below_step h.be hb⟩
theorem In3.mk' (w : World) (cs ar ct : Array Value) : In3 w (((w.alloc (.cells cs 92)).alloc (.cells ar 77)).alloc (.cells ct 45)) w.heap.size (w.heap.size + 1) (w.heap.size + 2) cs ar ct := by
  refine ⟨?_, ?_, ?_, ?_⟩
  · exact blk_alloc (blk_alloc (heap_alloc_new _ _) _) _
  · have := heap_alloc_new (w.alloc (.cells cs 92)) (.cells ar 77)
    rw [show (w.alloc (.cells cs 92)).heap.size = w.heap.size + 1 by simp] at this
    exact blk_alloc this _
  · have := heap_alloc_new ((w.alloc (.cells cs 92)).alloc (.cells ar 77)) (.cells ct 45)
    rw [show ((w.alloc (.cells cs 92)).alloc (.cells ar 77)).heap.size = w.heap.size + 2 by simp] at this
    exact this
  · exact below_alloc (below_alloc (below_alloc (Below.refl _ _) _) _) _
theorem three_cells {w : World} {g : Nat} {a b c : Value} {t : TypeId} (h : w.heap[g]? = some (.cells #[a, b, c] t (0, 0))) : w.cell? ⟨g, 0, none⟩ = some a ∧ w.cell? ⟨g, 1, none⟩ = some b ∧ w.cell? ⟨g, 2, none⟩ = some c :=
  ⟨(blk_cell h 0).trans rfl, (blk_cell h 1).trans rfl, (blk_cell h 2).trans rfl⟩
set_option maxHeartbeats 8000000 in
set_option maxRecDepth 100000 in
theorem law_calls (w : World) (cs : Array Value) (r : RV) (h : Rd w cs r) (tg N : Int) (L : Option Addr) (l lc : Nat) (hA : AR 4 w L l) (t : S45) (A2 : Option Addr) (c2 : Nat) (A5 : Option Addr) (c5 : Nat) (ht : Lies w t A2 c2 A5 c5) :
    Calls Try.prog 12 #[.agg cs, .agg #[.int .i64 tg, .int .i64 N, .slice L l lc], .agg (cellsT t A2 c2 A5 c5)] w (Ok w) := by
  have hu45 := Try.underlying45
  have hu70 := Try.underlying70
  have hu92 := Try.underlying92
  have hu67 := Try.underlying67
  have hu77 := Try.underlying77
  have P := In3.mk' w cs #[.int .i64 tg, .int .i64 N, .slice L l lc] (cellsT t A2 c2 A5 c5)
  obtain ⟨W, hW⟩ : ∃ W, ((w.alloc (.cells cs 92)).alloc (.cells #[.int .i64 tg, .int .i64 N, .slice L l lc] 77)).alloc (.cells (cellsT t A2 c2 A5 c5) 45) = W := ⟨_, rfl⟩
  rw [hW] at P
  obtain ⟨g, hg⟩ : ∃ g, w.heap.size = g := ⟨_, rfl⟩
  obtain ⟨ga, hga⟩ : ∃ ga, g + 1 = ga := ⟨_, rfl⟩
  obtain ⟨gt, hgt⟩ : ∃ gt, ga + 1 = gt := ⟨_, rfl⟩
  have e2 : g + 2 = gt := by omega
  rw [hg, hga, e2] at P
  have HP := Aside0.mk P
  have HRd := Aside0.mk h
  have HT := Aside0.mk ht
  have HAR := Aside0.mk hA
  have HSZ := Aside0.mk (show (Try.prog.info? 92).map (·.size) = some cs.size by rw [h.1]; kernel_rfl)
  have HF0 := Aside0.mk P.b0
  have HFW := Aside0.mk (few_calls W cs r (h.below P.be))
  have HAW := Aside0.mk (fun (W' : World) => awake21 W')
  clear P h ht hA e2
  go_enter Try.func12, Try.ntmps12
  go_wp2_with (first
    | ((with_reducible refine wpList_load_row (o := ⟨some 14, _, _, _, _, _⟩) rfl 92 (.tmp 3) rfl g ?_ 92 cs (0, 0) _ HF0.out hu92 rfl HSZ.out ?_); rfl))
  refine HFW.out.mono ?_
  rintro e w1 ⟨b, rfl, hfew, hb⟩
  have P1 := HP.out.below hb
  have HP1 := Aside0.mk P1
  have HFEW := Aside0.mk hfew
  clear hW hb hfew HFW HF0
  cases b with
  | false =>
    clear P1
    go_wp2_with fail
    refine (HAW.out _).mono ?_
    rintro e w2 ⟨rfl, hb⟩
    have HB := Aside0.mk (below_step HP1.out.be hb)
    clear hb
    go_wp2_with fail
    go_ret
    exact ⟨rfl, HB.out⟩
  | true =>
    obtain ⟨k0, k1, k2⟩ := three_cells P1.b1
    obtain ⟨g4, hg4⟩ : ∃ g4, w1.heap.size = g4 := ⟨_, rfl⟩
    obtain ⟨W2, hW2⟩ : ∃ W2, w1.alloc (.cells #[.int .i64 tg, .int .i64 N, .slice L l lc] 77) = W2 := ⟨_, rfl⟩
    have hb2 : Below w1.heap.size w1 W2 := by rw [← hW2]; exact below_alloc (Below.refl _ _) _
    have h4 : W2.heap[g4]? = some (.cells #[.int .i64 tg, .int .i64 N, .slice L l lc] 77 (0, 0)) := by rw [← hW2, ← hg4]; exact heap_alloc_new _ _
    have hbw := below_step HP1.out.be hb2
    have hAR5 : AR 5 W2 (some ⟨g4, 0, none⟩) 1 := by
      refine ⟨by omega, fun i hi => ?_⟩
      obtain rfl : i = 0 := by omega
      obtain ⟨q0, q1, q2⟩ := three_cells h4
      refine ⟨⟨g4, 0, none⟩, tg, N, L, l, lc, rfl, ?_, ?_, ?_, AR.below hbw HAR.out⟩
      · rw [add_plain]; exact q0
      · rw [add_plain]; exact q1
      · rw [add_plain]; exact q2
    have HFA := Aside0.mk (fewArgs_calls 4 (by omega) W2 (some ⟨g4, 0, none⟩) 1 1 hAR5)
    have HP2 := Aside0.mk (HP1.out.below hb2)
    clear hb2 h4 hbw hAR5 P1
    go_wp2_with fail
    refine HFA.out.mono ?_
    rintro e w3 ⟨b, rfl, hb⟩
    have P3 := HP2.out.below hb
    have HP3 := Aside0.mk P3
    clear hW2 hb HFA k0 k1 k2 HP2 HP1
    cases b with
    | false =>
      clear P3
      go_wp2_with fail
      refine (HAW.out _).mono ?_
      rintro e w2 ⟨rfl, hb⟩
      have HB := Aside0.mk (below_step HP3.out.be hb)
      clear hb
      go_wp2_with fail
      go_ret
      exact ⟨rfl, HB.out⟩
    | true =>
      obtain ⟨k0, k1, k2, k3, k4, k5⟩ := six_cells P3.b2
      have HLC := Aside0.mk (light_calls 40 (by omega) t w3 (HT.out.below P3.be))
      unfold cellsT at HLC
      clear P3
      go_wp2_with fail
      refine HLC.out.mono ?_
      rintro e w4 ⟨b, rfl, hlt, hb⟩
      have P4 := HP3.out.below hb
      have HP4 := Aside0.mk P4
      have HLT := Aside0.mk hlt
      clear hb HLC k0 k1 k2 k3 k4 k5 HP3 hlt
      cases b with
      | false =>
        clear P4
        go_wp2_with fail
        refine (HAW.out _).mono ?_
        rintro e w2 ⟨rfl, hb⟩
        have HB := Aside0.mk (below_step HP4.out.be hb)
        clear hb
        go_wp2_with fail
        go_ret
        exact ⟨rfl, HB.out⟩
      | true =>
        have HFE := Aside0.mk (HFEW.out trivial)
        have HTL := Aside0.mk (HLT.out rfl)
        clear HFEW HLT
        have HOF := Aside0.mk (fun (W' : World) (hb : Below w4.heap.size w4 W') => of_calls W' cs r (HRd.out.below (below_step HP4.out.be hb)) HFE.out)
        have HX0 := Aside0.mk P4.b0
        clear P4
        go_wp2_with fail
        refine reg3 (u3 := undef) (r := r) (fun _ _ d _ _ h => by cases d <;> exact h) HX0.out HRd.out.1 HOF.out (fun gx gw Cx Cw w5 hb hgx hgw hx hw hrx hrw => ?_)
        have P5 := HP4.out.below hb
        have HP5 := Aside0.mk P5
        have HGX := Aside0.mk (And.intro hgx hgw)
        have HX := Aside0.mk hx
        have HW := Aside0.mk hw
        have HRX := Aside0.mk hrx.rd
        have HRW := Aside0.mk hrw.rd
        obtain ⟨k0, k1, k2⟩ := three_cells P5.b1
        obtain ⟨t0, t1, t2, t3, t4, t5⟩ := six_cells P5.b2
        obtain ⟨r', ok, hputs, hpc⟩ := put_any w5 Cx r hrx.rd HFE.out tg N (.slice L l lc) t A2 c2 A5 c5 (HT.out.below P5.be)
        have HPU := Aside0.mk hputs
        unfold cellsT at hpc
        have HPC := Aside0.mk hpc
        have HSX := Aside0.mk (show (Try.prog.info? 70).map (·.size) = some Cx.size by rw [hrx.rd.1]; kernel_rfl)
        have HSW := Aside0.mk (show (Try.prog.info? 70).map (·.size) = some Cw.size by rw [hrw.rd.1]; kernel_rfl)
        clear hb hgx hgw hx hw hrx hrw HOF HX0 HP4 P5 hputs hpc
        go_wp2_with (first
          | ((with_reducible refine wpList_load_row (o := ⟨some 34, _, _, _, _, _⟩) rfl 70 (.tmp 7) rfl gx ?_ 70 Cx (0, 0) _ HX.out hu70 rfl HSX.out ?_); rfl))
        refine HPC.out.mono ?_
        rintro e w6 ⟨Cy, rfl, hry, hb⟩
        obtain ⟨gy, hgy⟩ : ∃ gy, w6.heap.size = gy := ⟨_, rfl⟩
        obtain ⟨Z, hZ⟩ : ∃ Z, Try.zeroCells70 = Z := ⟨_, rfl⟩
        have hz : Z.size = 101 := by rw [← hZ]; rfl
        obtain ⟨W7, hW7⟩ : ∃ W7, w6.alloc (.cells Z 70) = W7 := ⟨_, rfl⟩
        obtain ⟨W8, hW8⟩ : ∃ W8, W7.setRow gy Cy = W8 := ⟨_, rfl⟩
        have hb7 : Below w6.heap.size w6 W7 := by rw [← hW7]; exact below_alloc (Below.refl _ _) _
        have h7 : W7.heap[gy]? = some (.cells Z 70 (0, 0)) := by rw [← hW7, ← hgy]; exact heap_alloc_new _ _
        have h8 : RegAt W8 gy Cy := by rw [← hW8]; exact setRow_heap W7 gy _ _ _ _ h7
        have hb8 : Below w6.heap.size w6 W8 := by rw [← hW8]; exact below_setRow hb7 (by omega) _
        have hb58 := below_step hb hb8
        have P8 := HP5.out.below hb58
        have HP8 := Aside0.mk P8
        have HX8 := Aside0.mk (RegAt.below HX.out hb58)
        have HW8 := Aside0.mk (RegAt.below HW.out hb58)
        have HY8 := Aside0.mk h8
        have HRX8 := Aside0.mk (HRX.out.below hb58)
        have HRW8 := Aside0.mk (HRW.out.below hb58)
        have HRY8 := Aside0.mk (hry.below hb8)
        have HH7 := Aside0.mk h7
        have HSY := Aside0.mk (show (Try.prog.info? 70).map (·.size) = some Cy.size by rw [hry.1]; kernel_rfl)
        have HZY := Aside0.mk (show Z.size = Cy.size by rw [hry.1]; exact hz)
        have HOY := Aside0.mk (rd_one hry).all
        clear hb hb7 h7 h8 hb8 hb58 hry hz k0 k1 k2 t0 t1 t2 t3 t4 t5 HPC HX HW HRX HRW HP5 P8
        go_wp2_with (first
          | ((with_reducible refine wpList_store_row (o := ⟨none, _, _, _, _, _⟩) rfl 70 (.tmp 9) (.tmp 38) rfl gy Cy ?_ ?_ 70 Z HH7.out HSY.out HZY.out HOY.out ?_); rfl; rfl)
          | ((with_reducible refine wpList_load_row (o := ⟨some 40, _, _, _, _, _⟩) rfl 70 (.tmp 7) rfl gx ?_ 70 Cx (0, 0) _ HX8.out hu70 rfl HSX.out ?_); rfl)
          | ((with_reducible refine wpList_load_row (o := ⟨some 41, _, _, _, _, _⟩) rfl 70 (.tmp 8) rfl gw ?_ 70 Cw (0, 0) _ HW8.out hu70 rfl HSW.out ?_); rfl))
        have HREF := Aside0.mk (show ReflR r from ⟨fun i hi => refl_of 40 _ (HFE.out.2.1 i hi), fun i hi j hj => refl_of 40 _ ((HFE.out.2.2 i hi).2 j hj)⟩)
        refine (same_calls W8 Cx Cw r HRX8.out HRW8.out HREF.out).mono ?_
        rintro e w9 ⟨rfl, hb⟩
        have HP9 := Aside0.mk (HP8.out.below hb)
        have HX9 := Aside0.mk (RegAt.below HX8.out hb)
        have HY9 := Aside0.mk (RegAt.below HY8.out hb)
        have HRX9 := Aside0.mk (HRX8.out.below hb)
        have HRY9 := Aside0.mk (HRY8.out.below hb)
        clear hb HX8 HW8 HY8 HRX8 HRW8 HRY8 HP8 hW7 hW8 hZ HH7
        cases ok with
        | false =>
          have hrr : r' = r := by
            rcases HPU.out with ⟨_, h⟩ | ⟨h, _⟩ | ⟨h, _⟩
            · exact h
            · cases h
            · cases h
          subst hrr
          go_wp2_with (first
            | ((with_reducible refine wpList_load_row_w (o := ⟨some 48, _, _, _, _, _⟩) rfl 70 (.tmp 9) rfl gy ?_ 70 Cy (0, 0) _ HY9.out hu70 rfl HSY.out ?_); rfl)
            | ((with_reducible refine wpList_load_row_w (o := ⟨some 49, _, _, _, _, _⟩) rfl 70 (.tmp 7) rfl gx ?_ 70 Cx (0, 0) _ HX9.out hu70 rfl HSX.out ?_); rfl))
          refine (same_calls w9 Cy Cx r' HRY9.out HRX9.out HREF.out).mono ?_
          rintro e wa ⟨rfl, hb⟩
          have HPa := Aside0.mk (HP9.out.below hb)
          clear hb
          go_wp2_with fail
          refine (HAW.out _).mono ?_
          rintro e w2 ⟨rfl, hb⟩
          have HB := Aside0.mk (below_step HPa.out.be hb)
          clear hb
          go_wp2_with fail
          go_ret
          exact ⟨rfl, HB.out⟩
        | true =>
          obtain ⟨k0, k1, k2⟩ := three_cells HP9.out.b1
          go_wp2_with (first
            | ((with_reducible refine wpList_load_row (o := ⟨some 58, _, _, _, _, _⟩) rfl 70 (.tmp 9) rfl gy ?_ 70 Cy (0, 0) _ HY9.out hu70 rfl HSY.out ?_); rfl))
          refine (src_put w9 Cy #[.slice none 0 0, .slice none 0 0, .slice none 0 0, .slice none 0 0, .slice none 0 0, .slice none 0 0] rfl (.slice L l lc) r r' HFE.out tg N t HPU.out HRY9.out).mono ?_
          rintro e wb ⟨B2, d2, B5, d5, rfl, hlu, hb⟩
          obtain ⟨gu, hgu⟩ : ∃ gu, wb.heap.size = gu := ⟨_, rfl⟩
          obtain ⟨u, hu⟩ : ∃ u, srcT t = u := ⟨_, rfl⟩
          rw [hu] at hlu ⊢
          obtain ⟨V1, hV1⟩ : ∃ V1, wb.alloc (.cells #[.int .i64 0, .bool false, .slice none 0 0, .string ⟨#[]⟩, .int .i64 0, .slice none 0 0] 45) = V1 := ⟨_, rfl⟩
          have v1 : V1.heap[gu]? = some (.cells #[.int .i64 0, .bool false, .slice none 0 0, .string ⟨#[]⟩, .int .i64 0, .slice none 0 0] 45 (0, 0)) := by rw [← hV1, ← hgu]; exact heap_alloc_new _ _
          have bv1 : Below wb.heap.size wb V1 := by rw [← hV1]; exact below_alloc (Below.refl _ _) _
          obtain ⟨f0, f1, f2, f3, f4, f5⟩ := six_live v1
          obtain ⟨z0, z1, z2, z3, z4, z5⟩ := six_cells v1
          obtain ⟨V2, hV2⟩ : ∃ V2, ((((((V1.setCell ⟨gu, 0, none⟩ (.int .i64 u.f0)).setCell ⟨gu, 1, none⟩ (.bool u.f1.f0)).setCell ⟨gu, 2, none⟩ (.slice B2 u.f1.f1.length d2)).setCell ⟨gu, 3, none⟩ (.string u.f2)).setCell ⟨gu, 4, none⟩ (.int .i64 u.f3)).setCell ⟨gu, 5, none⟩ (.slice B5 u.f4.length d5)) = V2 := ⟨_, rfl⟩
          have v2 : V2.heap[gu]? = some (.cells (cellsT u B2 d2 B5 d5) 45 (0, 0)) := by rw [← hV2]; exact six_put v1
          have bv2 : Below wb.heap.size wb V2 := by rw [← hV2]; exact below_six bv1 (by omega)
          have hb2 := below_step hb bv2
          have PV := HP9.out.below hb2
          have HPV := Aside0.mk PV
          have HXV := Aside0.mk (RegAt.below HX9.out hb2)
          have HYV := Aside0.mk (RegAt.below HY9.out hb2)
          have HRXV := Aside0.mk (HRX9.out.below hb2)
          have HRYV := Aside0.mk (HRY9.out.below hb2)
          have HUV := Aside0.mk v2
          have HLU := Aside0.mk (hlu.below bv2)
          have HU := Aside0.mk hu
          obtain ⟨m0, m1, m2, m3, m4, m5⟩ := six_cells PV.b2
          have HPL := Aside0.mk (plain_calls V2 t A2 c2 A5 c5)
          obtain ⟨pb, hpb⟩ : ∃ pb, plainB t = pb := ⟨_, rfl⟩
          have HPB := Aside0.mk hpb
          rw [hpb] at HPL ⊢
          unfold cellsT at HPL ⊢
          clear hb hb2 hlu v1 bv1 v2 bv2 PV hu HX9 HY9 HRX9 HRY9 HP9 k0 k1 k2 hpb
          go_wp2_with fail
          refine HPL.out.mono ?_
          rintro e wc ⟨rfl, hb⟩
          have PC := HPV.out.below hb
          have HPC_ := Aside0.mk PC
          have HXC := Aside0.mk (RegAt.below HXV.out hb)
          have HYC := Aside0.mk (RegAt.below HYV.out hb)
          have HRXC := Aside0.mk (HRXV.out.below hb)
          have HRYC := Aside0.mk (HRYV.out.below hb)
          have uc : wc.heap[gu]? = some (.cells (cellsT u B2 d2 B5 d5) 45 (0, 0)) := (hb.block _ (blk_lt HUV.out)).trans HUV.out
          have HLUC := Aside0.mk (HLU.out.below hb)
          clear hV1 hV2 hb f0 f1 f2 f3 f4 f5 z0 z1 z2 z3 z4 z5 m0 m1 m2 m3 m4 m5 HPV HXV HYV HRXV HRYV HUV HLU HPL
          obtain ⟨m0, m1, m2, m3, m4, m5⟩ := six_cells PC.b2
          obtain ⟨n0, n1, n2, n3, n4, n5⟩ := six_cells uc
          clear PC uc
          have hfl : r'.fs.length = r.fs.length := by
            rcases HPU.out with ⟨_, h⟩ | ⟨_, _, _, _, _, h⟩ | ⟨_, _, _, _, _, h⟩
            · rw [h]
            · rw [h]; rfl
            · rw [h]; unfold setY; exact List.length_set
          obtain ⟨Fy, fcy, y96, _, _⟩ := HRYC.out.2.2.2.1
          obtain ⟨Fx, fcx, x96, _, _⟩ := HRXC.out.2.2.2.1
          rw [hfl] at y96
          have HY96 := Aside0.mk y96
          have HX96 := Aside0.mk x96
          clear hfl y96 x96
          cases pb
          case' true =>
            obtain rfl : t = u := by rw [← HU.out]; unfold srcT; rw [HPB.out, if_pos rfl]
            have HST := Aside0.mk (sameT_calls 40 (by omega) t HTL.out wc HLUC.out (HT.out.below HPC_.out.be))
            unfold cellsT at HST
            go_wp2_with fail
            refine HST.out.mono ?_
            rintro e wd ⟨rfl, hb⟩
            have HPD := Aside0.mk (HPC_.out.below hb)
            have HXD := Aside0.mk (RegAt.below HXC.out hb)
            have HYD := Aside0.mk (RegAt.below HYC.out hb)
            have HRXD := Aside0.mk (HRXC.out.below hb)
            have HRYD := Aside0.mk (HRYC.out.below hb)
            clear hb HPC_ HXC HYC HRXC HRYC HST HLUC m0 m1 m2 m3 m4 m5 n0 n1 n2 n3 n4 n5
            have o1 := (blk_cell HYD.out 96).trans HY96.out
            have o2 := (blk_cell HXD.out 96).trans HX96.out
            go_wp2_with fail
          case' false =>
            have o1 := (blk_cell HYC.out 96).trans HY96.out
            have o2 := (blk_cell HXC.out 96).trans HX96.out
            go_wp2_with fail
            obtain ⟨wd, hwd⟩ : ∃ wd, wc = wd := ⟨_, rfl⟩
            subst hwd
            have HPD := HPC_
            have HXD := HXC
            have HYD := HYC
            have HRXD := HRXC
            have HRYD := HRYC
            clear HPC_ HXC HYC HRXC HRYC HLUC m0 m1 m2 m3 m4 m5 n0 n1 n2 n3 n4 n5
          all_goals
            clear o1 o2 HY96 HX96
            go_loopg [13] 17 (fun q v13 wr => ∃ i : Nat, v13 = .int .i64 i ∧ i ≤ 16 ∧ q = 17 - i ∧ Aside0 (In3 w wr g ga gt cs #[.int .i64 tg, .int .i64 N, .slice L l lc] (cellsT t A2 c2 A5 c5)) ∧ Aside0 (RegAt wr gx Cx) ∧ Aside0 (RegAt wr gy Cy) ∧ Aside0 (Rd wr Cx r) ∧ Aside0 (Rd wr Cy r'))
            case atStart => exact ⟨0, rfl, by omega, by omega, HPD, HXD, HYD, HRXD, HRYD⟩
            case round =>
              clear HPD HXD HYD HRXD HRYD
              obtain ⟨i, rfl, hi, rfl, HPD, HXD, HYD, HRXD, HRYD⟩ := hrel
              by_cases hlt : i < 16
              · have b1 : (i : Int) < 16 := by omega
                obtain ⟨k0, k1, k2⟩ := three_cells HPD.out.b1
                by_cases hsk : tg = 3 ∧ N = (i : Int)
                · obtain ⟨rfl, rfl⟩ := hsk
                  go_wp2_with fail
                  refine reg15c (tg := 0) (N := 0) (gx := gx) (gy := gy) (fun _ _ d _ _ h => by cases d <;> exact h) hlt HPD.out.b1 (fun wq hb => ?_)
                  have HPE := Aside0.mk (HPD.out.below hb)
                  have HXE := Aside0.mk (RegAt.below HXD.out hb)
                  have HYE := Aside0.mk (RegAt.below HYD.out hb)
                  have HRXE := Aside0.mk (HRXD.out.below hb)
                  have HRYE := Aside0.mk (HRYD.out.below hb)
                  clear hb
                  go_wp2_with fail
                  go_roundg (17 - (i + 1))
                  case measure => omega
                  case rel => exact ⟨i + 1, by go_num, by omega, rfl, HPE, HXE, HYE, HRXE, HRYE⟩
                · have hxx : r'.xs.getD i z45 = r.xs.getD i z45 := by
                    rcases HPU.out with ⟨_, h⟩ | ⟨_, h3, q, hN, hq, h⟩ | ⟨_, _, _, _, _, h⟩
                    · rw [h]
                    · have hne : q ≠ i := fun e => hsk ⟨h3, by rw [hN, e]⟩
                      rw [h]; unfold setX
                      rw [List.getD_eq_getElem?_getD, List.getD_eq_getElem?_getD, List.getElem?_set_ne hne]
                    · rw [h]; rfl
                  have HXX := Aside0.mk hxx
                  have HNS := Aside0.mk hsk
                  clear hxx hsk
                  by_cases h3 : tg = 3
                  · subst h3
                    have HNE := Aside0.mk (show N ≠ (i : Int) from fun e => HNS.out ⟨rfl, e⟩)
                    clear HNS
                    go_wp2_with fail
                    refine reg15b (tg := 0) (fun _ _ d _ _ h => by cases d <;> exact h) hlt HNE.out HPD.out.b1 HXD.out HYD.out HRXD.out HRYD.out HXX.out (HFE.out.2.1 i hlt) (fun Y2 Yc2 Y5 Yc5 X2 Xc2 X5 Xc5 wq hb => ?_)
                    have HPE := Aside0.mk (HPD.out.below hb)
                    have HXE := Aside0.mk (RegAt.below HXD.out hb)
                    have HYE := Aside0.mk (RegAt.below HYD.out hb)
                    have HRXE := Aside0.mk (HRXD.out.below hb)
                    have HRYE := Aside0.mk (HRYD.out.below hb)
                    clear hb
                    go_wp2_with fail
                    go_roundg (17 - (i + 1))
                    case measure => omega
                    case rel => exact ⟨i + 1, by go_num, by omega, rfl, HPE, HXE, HYE, HRXE, HRYE⟩
                  · have H3 := Aside0.mk h3
                    clear h3
                    go_wp2_with fail
                    refine reg15a (fun _ _ d _ _ h => by cases d <;> exact h) hlt H3.out HPD.out.b1 HXD.out HYD.out HRXD.out HRYD.out HXX.out (HFE.out.2.1 i hlt) (fun Y2 Yc2 Y5 Yc5 X2 Xc2 X5 Xc5 wq hb => ?_)
                    have HPE := Aside0.mk (HPD.out.below hb)
                    have HXE := Aside0.mk (RegAt.below HXD.out hb)
                    have HYE := Aside0.mk (RegAt.below HYD.out hb)
                    have HRXE := Aside0.mk (HRXD.out.below hb)
                    have HRYE := Aside0.mk (HRYD.out.below hb)
                    clear hb
                    go_wp2_with fail
                    go_roundg (17 - (i + 1))
                    case measure => omega
                    case rel => exact ⟨i + 1, by go_num, by omega, rfl, HPE, HXE, HYE, HRXE, HRYE⟩
              · have hie : i = 16 := by omega
                subst hie
                obtain ⟨y98, y99, y100⟩ := HRYD.out.2.2.2.2.2
                obtain ⟨x98, x99, x100⟩ := HRXD.out.2.2.2.2.2
                have hsame : r'.back = r.back ∧ r'.pc = r.pc ∧ r'.room = r.room := by
                  rcases HPU.out with ⟨_, h⟩ | ⟨_, _, _, _, _, h⟩ | ⟨_, _, _, _, _, h⟩ <;> rw [h] <;> exact ⟨rfl, rfl, rfl⟩
                rw [hsame.1] at y98
                rw [hsame.2.1] at y99
                rw [hsame.2.2] at y100
                have c1 := (blk_cell HXD.out 98).trans x98
                have c2_ := (blk_cell HXD.out 99).trans x99
                have c3 := (blk_cell HXD.out 100).trans x100
                have c4 := (blk_cell HYD.out 98).trans y98
                have c5_ := (blk_cell HYD.out 99).trans y99
                have c6 := (blk_cell HYD.out 100).trans y100
                clear hsame x98 x99 x100 y98 y99 y100
                go_wp2_with fail
                refine (HAW.out _).mono ?_
                rintro e w2 ⟨rfl, hb⟩
                have HB := Aside0.mk (below_step HPD.out.be hb)
                clear hb
                go_wp2_with fail
                go_ret
                exact ⟨by first | rfl | (simp; done), HB.out⟩
end Go.Proofs.YthdmacdeefohkaaRpW
