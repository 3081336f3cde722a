/- Rows of limbs: Norm of the program and of the document, Limbs. -/
import Derived.Test.YthdmacdeefohkaaMem
import Derived.Test.YthdmacdeefohkaaBits
import Derived.Laws.CopyOwn
import Derived.WalkMore
namespace Go.Proofs.YthdmacdeefohkaaLeaf
open Go.RowKit Go.Proofs.YthdmacdeefohkaaW.PrintWords Go.Proofs.YthdmacdeefohkaaW.PrintLast Go.Proofs.YthdmacdeefohkaaW.PrintMore Go.Proofs.YthdmacdeefohkaaMem Go.Proofs.YthdmacdeefohkaaBits Go.Proofs
set_option linter.unusedVariables false
set_option linter.unusedSimpArgs false
/-- How many of the first n stay: without the zeros behind. -/
def keepN (xs : List Int) : Nat → Nat
  | 0 => 0
  | n + 1 => if xs.getD n 0 = 0 then keepN xs n else n + 1
theorem keepN_le (xs : List Int) : ∀ n, keepN xs n ≤ n := by
  intro n; induction n with
  | zero => simp [keepN]
  | succ n ih => simp only [keepN]; split <;> omega
theorem made_nums (k : IntKind) (m : Nat) : madeCells #[Value.int k 0] m = (nums k (List.replicate m 0)).toArray := by
  rw [show nums k (List.replicate m 0) = List.replicate m (.int k 0) by simp [nums]]
  apply Array.ext
  · simp [madeCells]
  · intro i h1 h2
    simp [madeCells, Nat.mod_one]
theorem mods_cell {S : Nat → Prop} {w w' : World} {p : Addr} {u : Value} (k : Mods S w w') (hn : ¬ S p.block) (h : w.cell? p = some u) : w'.cell? p = some u :=
  (World.cell?_of_block (w := w) (k.block p.block (World.block_lt_of_cell? w _ h) hn)).trans h
theorem reads_mods {S : Nat → Prop} {w w' : World} {k : IntKind} {A : Option Addr} {n : Nat} {xs : List Int} (h : ReadsInt w k A n xs) (hm : Mods S w w') (hn : ∀ ad, A = some ad → ¬ S ad.block) : ReadsInt w' k A n xs := by
  obtain ⟨h1, h2, h3⟩ := h
  refine ⟨h1, h2, fun h0 => ?_⟩
  obtain ⟨ad, rfl, hc⟩ := h3 h0
  refine ⟨ad, rfl, fun j hj => mods_cell hm ?_ (hc j hj)⟩
  have : (ad.add j).block = ad.block := by unfold Addr.add; split <;> rfl
  rw [this]
  exact hn ad rfl
section
variable {P : Program}
theorem Mods.setRow {w : World} {g : Nat} (cs : Array Value) : Mods (fun i => i = g) w (w.setRow g cs) := ⟨rfl, rfl, rfl, by simp [World.setRow], fun k _ hn => setRow_other w g k cs hn⟩
/-- copy into a row known whole; what else is there stays. -/
theorem wpList_copy_mods {w : World} {ops : Array Oper} {rest : List Oper} {o : Oper} {a : Act} {Q : Exit → Act → World → Prop} (hgd : o.guard = none) (d s : Operand) (dT sT : TypeId)
    (ho : o.op = .call { callee := .builtin .copy, args := #[d, s], argTypes := #[dT, sT] }) (elem : TypeId) (hu : P.underlying dT = some (.slice elem)) (hsz : (P.info? elem).map (·.size) = some 1)
    (dp sp : Option Addr) (dLen dCap sLen sCap : Nat) (hd : a.eval d = .slice dp dLen dCap) (hs : a.eval s = .slice sp sLen sCap)
    (g off : Nat) (cur : List Value) (t : TypeId) (hg : w.heap[g]? = some (.cells cur.toArray t (0, 0))) (cs : List Value) (n : Nat) (hln : cs.length = n) (hn : n = Nat.min sLen dLen)
    (hpos : 0 < cs.length → dp = some ⟨g, off, none⟩ ∧ ∃ ad, sp = some ad ∧ ∀ j v, cs[j]? = some v → w.cell? (ad.add j) = some v)
    (hfit : off + cs.length ≤ cur.length) (h1 : ∀ v ∈ cs, v.oneCell' = true)
    (h : ∀ w', Aside0 (w'.heap[g]? = some (.cells (splice cur off cs).toArray t (0, 0))) → Aside0 (Mods (fun i => i = g) w w') → wpList P ops Q rest (a.put o.dst (.int .i64 (n : Int))) w') :
    wpList P ops Q (o :: rest) a w := by
  subst hln
  by_cases h0 : cs.length = 0
  · obtain rfl : cs = [] := List.eq_nil_of_length_eq_zero h0
    refine wpList_copy_nothing hgd d s dT sT ho elem hu hsz dp sp dLen dCap sLen sCap hd hs (by simpa using hn.symm) ?_
    exact h w ⟨by simpa [splice] using hg⟩ ⟨Mods.refl _ _⟩
  · obtain ⟨rfl, ad, rfl, hsrc⟩ := hpos (by omega)
    refine wpList_copy_own hgd d s dT sT ho elem hu hsz g off dLen dCap ad sLen sCap hd hs cur.toArray t hg cs hn hsrc (by simpa using hfit) h1 ?_
    exact h _ ⟨by simpa [splice] using setRow_heap w g _ _ t _ hg⟩ ⟨Mods.setRow _⟩
end
/-- A row made by the call, as the printed texts name it. -/
theorem R_of_blk {w : World} {B g : Nat} {e : TypeId} {k : IntKind} {xs : List Int} {c : Nat} (h : w.heap[g]? = some (.cells (nums k xs).toArray e (0, 0))) (hB : B ≤ g) (hc : c = xs.length) (hm : c ≤ maxLen) : Kd.R (Kd.int k) e w B (fun _ => True) (.slice (some ⟨g, 0, none⟩) c c) xs := by
  subst hc
  exact Kd.R_of_own (enc := Value.int k) ⟨by simp [encs], .inr ⟨g, xs.length, _, rfl, hB, h, Nat.le_refl _, hm, by simp [nums], by rw [List.take_of_length_le (by simp [nums])]; rfl⟩⟩ (fun _ _ => trivial)
theorem info32 : (Try.prog.info? 123).map (fun i => (i.zero, i.size, i.bytes)) = some (some (.int .u32 0), 1, 4) := by kernel_rfl
theorem read_at {w : World} {k : IntKind} {A : Option Addr} {n : Nat} {xs : List Int} (h : ReadsInt w k A n xs) (j : Nat) (hj : j < n) : ∃ ad, A = some ad ∧ w.cell? (ad.add j) = some (.int k (xs.getD j 0)) := by
  obtain ⟨h1, h2, h3⟩ := h
  obtain ⟨ad, e, hc⟩ := h3 (by omega)
  exact ⟨ad, e, hc j hj⟩
set_option maxHeartbeats 4000000 in
set_option maxRecDepth 100000 in
theorem norm_calls (w : World) (A : Option Addr) (c : Nat) (xs : List Int) (hr : ReadsInt w .u32 A xs.length xs) (hc : xs.length ≤ c) (hm : xs.length ≤ 1000) :
    Calls Try.prog 123 #[.slice A xs.length c] w fun e w' => ∃ v : Value, e = .returned v ∧ Kd.R (Kd.int .u32) 123 w' w.heap.size (fun _ => True) v (xs.take (keepN xs xs.length)) ∧ Below w.heap.size w w' := by
  have HR := Aside0.mk hr
  obtain ⟨n, hn⟩ : ∃ n, xs.length = n := ⟨_, rfl⟩
  rw [hn] at hc hm ⊢
  obtain ⟨K, hK⟩ : ∃ K, keepN xs n = K := ⟨_, rfl⟩
  have HK := Aside0.mk hK
  have HKL := Aside0.mk (keepN_le xs n)
  have hKl : K ≤ n := by rw [← hK]; exact keepN_le xs n
  rw [hK]
  have HN := Aside0.mk hn
  clear hr hn hK
  go_enter Try.func123, Try.ntmps123
  go_wp2_with fail
  go_loopg [3] n (fun g v3 wr => v3 = .int .i64 g ∧ g ≤ n ∧ keepN xs g = K ∧ wr = w)
  case atStart => exact ⟨rfl, Nat.le_refl _, HK.out, rfl⟩
  case round =>
    obtain ⟨rfl, hj, hk, rfl⟩ := hrel
    cases gk with
    | zero =>
      have hk0 : K = 0 := by rw [← hk]; rfl
      subst hk0
      go_wp2_with fail
      go_ret
      exact ⟨_, rfl, by simpa using Kd.R_nil (Kd.int .u32) _ _ _ _, Below.refl _ _⟩
    | succ j =>
      obtain ⟨ad, rfl, hcell⟩ := read_at HR.out j (by have := HN.out; omega)
      have e1 : IntKind.i64.wrap (((j + 1 : Nat) : Int) - 1) = (j : Int) := by rw [IntKind.wrap_i64]; omega
      have e2 : ((j + 1 : Nat) : Int) > 0 := by omega
      simp only [keepN] at hk
      by_cases hz : xs.getD j 0 = 0
      · rw [if_pos hz] at hk
        rw [hz] at hcell
        have HC := Aside0.mk hcell
        go_wp2_with fail
        go_roundg j
        case measure => omega
        case rel => exact ⟨by go_num, by omega, hk, rfl⟩
      · rw [if_neg hz] at hk
        subst hk
        obtain ⟨x, hx⟩ : ∃ x, xs.getD j 0 = x := ⟨_, rfl⟩
        rw [hx] at hcell hz
        have e3 : (x == 0) = false := beq_eq_false_iff_ne.mpr hz
        have e4 : ((j : Int) + 1 == 0) = false := by rw [beq_eq_false_iff_ne]; omega
        have e5 : ¬ ((j : Int) + 1 = 0) := by omega
        have hmk : ∀ W : World, (Instr.makeSlice 40 (.int .i64 ((j : Int) + 1)) (.int .i64 ((j : Int) + 1))).run Try.prog W = .ok (.slice (some ⟨W.heap.size, 0, none⟩) (j + 1) (j + 1)) (W.alloc (.cells (madeCells #[.int .u32 0] (j + 1)) 123)) :=
          fun W => print_make (P := Try.prog) 40 123 .u32 4 Try.underlying40 info32 (by decide) (j + 1) (by omega) W
        have hg : (wr.alloc (.cells (madeCells #[.int .u32 0] (j + 1)) 123)).heap[wr.heap.size]? = some (.cells (nums .u32 (List.replicate (j + 1) 0)).toArray 123 (0, 0)) := by
          rw [heap_alloc_new, made_nums]
        have HG := Aside0.mk hg
        have hcs : (nums .u32 (xs.take (j + 1))).length = j + 1 := by have := HN.out; simp [nums]; omega
        have HCS := Aside0.mk hcs
        have HMIN := Aside0.mk (show j + 1 = Nat.min n (j + 1) from (Nat.min_eq_right hj).symm)
        have HP := Aside0.mk (show 0 < (nums .u32 (xs.take (j + 1))).length → (some (⟨wr.heap.size, 0, none⟩ : Addr)) = some ⟨wr.heap.size, 0, none⟩ ∧ ∃ ad', some ad = some ad' ∧ ∀ i u, (nums .u32 (xs.take (j + 1)))[i]? = some u → (wr.alloc (.cells (madeCells #[.int .u32 0] (j + 1)) 123)).cell? (ad'.add i) = some u from by
          intro _
          refine ⟨rfl, ad, rfl, fun i u hu => ?_⟩
          have hi : i < j + 1 := by rw [← hcs]; exact (List.getElem?_eq_some_iff.1 hu).1
          simp only [nums, List.getElem?_map, Option.map_eq_some_iff] at hu
          obtain ⟨z, hz, rfl⟩ := hu
          rw [List.getElem?_take, if_pos hi] at hz
          obtain ⟨ad', e', hc'⟩ := (HR.out.below (below_alloc (Below.refl _ wr) _)).2.2 (by have := HN.out; omega)
          injection e' with e'
          subst e'
          rw [hc' i (by have := HN.out; omega)]
          simp [List.getD_eq_getElem?_getD, hz])
        have HFIT := Aside0.mk (show 0 + (nums .u32 (xs.take (j + 1))).length ≤ (nums .u32 (List.replicate (j + 1) 0)).length from by rw [hcs]; simp [nums])
        have H1C := Aside0.mk (show ∀ u ∈ nums .u32 (xs.take (j + 1)), u.oneCell' = true from by intro u hu; simp only [nums, List.mem_map] at hu; obtain ⟨z, _, rfl⟩ := hu; rfl)
        have HSZ := Aside0.mk (show (Try.prog.info? 123).map (·.size) = some 1 by
          obtain ⟨i0, hi0, hz0⟩ := Option.map_eq_some_iff.1 info32
          simp only [Prod.mk.injEq] at hz0
          rw [hi0]; simp [hz0.2.1])
        clear hg hcs
        go_wp2_with ((with_reducible refine wpList_copy_mods (o := ⟨some 25, _, _, _, _, _⟩) rfl (.tmp 23) (.tmp 24) 40 40 rfl 123 Try.underlying40 HSZ.out (some ⟨wr.heap.size, 0, none⟩) (some ad) (j + 1) (j + 1) n c ?_ ?_ wr.heap.size 0 (nums .u32 (List.replicate (j + 1) 0)) 123 HG.out (nums .u32 (xs.take (j + 1))) (j + 1) HCS.out HMIN.out HP.out HFIT.out H1C.out ?_); rfl; rfl; intro w' HGG HMM)
        go_wp2_with fail
        go_ret
        refine ⟨_, rfl, ?_, below_mods (below_alloc (Below.refl _ wr) _) HMM.out (by simp) (fun i hi => by omega)⟩
        have hs : splice (nums .u32 (List.replicate (j + 1) 0)) 0 (nums .u32 (xs.take (j + 1))) = nums .u32 (xs.take (j + 1)) := by
          have := HCS.out
          simp only [splice, List.take_zero, List.nil_append]
          rw [List.drop_eq_nil_of_le (by rw [this]; simp [nums]), List.append_nil]
        have q := HGG.out
        rw [hs] at q
        exact R_of_blk q (Nat.le_refl _) (by have := HN.out; simp; omega) (by unfold maxLen; omega)
section
variable {P : Program}
/-- append(nil, l...): a new row. -/
theorem run_append_nil (w : World) (t ty e : TypeId) (i : TypeInfo) (z : Value) (bytes : Nat) (k : IntKind) (ht : P.underlying t = some (.slice e)) (hni : ∀ k', P.underlying t ≠ some (.int k')) (hi : P.info? e = some i) (hz : i.zero = some z)
    (hsize : i.size = 1) (hby : i.bytes = bytes) (hzs : z.cells.size = 1) (A : Option Addr) (m c : Nat) (xs : List Int) (hr : ReadsInt w k A m xs) (hm : m ≤ maxLen) (hb : m * bytes ≤ 140737488355328) :
    ∃ A' c' w', (Builtin.append_ #[t, t] ty #[.slice none 0 0, .slice A m c]).run P w = .ok (.slice A' m c') w' ∧ Kd.R (Kd.int k) e w' w.heap.size (fun _ => True) (.slice A' m c') xs ∧ Below w.heap.size w w' := by
  obtain ⟨h1, h2, h3⟩ := hr
  by_cases h0 : m = 0
  · subst h0
    obtain rfl : xs = [] := List.eq_nil_of_length_eq_zero h1
    refine ⟨none, 0, w, ?_, Kd.R_nil _ _ _ _ _, Below.refl _ _⟩
    cases A <;> simp [Builtin.append_, run_underlying ht, sizeOf, typeInfo, hi, Builtin.lenOf, Builtin.firstCells, loadCells, loadCellsFrom]
  · obtain ⟨a, rfl, hc⟩ := h3 (by omega)
    have hnews : ∀ j u, (nums k xs)[j]? = some u → w.cell? (a.add j) = some u := by
      intro j u hu
      simp only [nums, List.getElem?_map, Option.map_eq_some_iff] at hu
      obtain ⟨x, hx, rfl⟩ := hu
      have hj : j < xs.length := (List.getElem?_eq_some_iff.1 hx).1
      rw [hc j (by omega)]
      simp [List.getD_eq_getElem?_getD, hx]
    obtain ⟨v', w', q1, q2, q3, q4, q5⟩ := run_append_own_at (P := P) (w := w) w.heap.size t ty e i z 1 bytes ht hi hz hsize hby hzs (by omega) (.slice none 0 0) 0 [] ⟨rfl, .inl ⟨rfl, rfl⟩⟩ a m c (nums k xs) (by simp [nums, h1]) hnews (by intro u hu; simp only [nums, List.mem_map] at hu; obtain ⟨x, _, rfl⟩ := hu; rfl) (by omega) (by rw [Nat.zero_add]; exact hb) (Nat.le_refl _)
    have hb' : Below w.heap.size w w' := ⟨q3.os, q3.tape, q3.output, q3.size, fun k hk => q3.block k hk (by simp [Value.ownBlock])⟩
    have q2' : w'.ownsRow w.heap.size e 1 v' xs.length (encs (Value.int k) xs) := by
      have : (0 + m) = xs.length := by omega
      rw [this] at q2
      simpa [nums, encs] using q2
    have hR : Kd.R (Kd.int k) e w' w.heap.size (fun _ => True) v' xs := Kd.R_of_own (enc := Value.int k) q2' (fun _ _ => trivial)
    rcases q2.2 with ⟨rfl, hh⟩ | ⟨g, cap, cur, rfl, _⟩
    · omega
    · rw [Nat.zero_add] at q1 hR
      exact ⟨_, _, _, q1, hR, hb'⟩
/-- .. in a plain region. -/
theorem wp_append_nil {ops : Array Oper} {rest : List Oper} {o : Oper} {a : Act} {w : World} {Q : Exit → Act → World → Prop}
    (hg : o.guard = none) (s x : Operand) (t : TypeId) (hop : o.op = Op.call { callee := Callee.builtin Builtin.append, args := #[s, x], argTypes := #[t, t] })
    (e : TypeId) (i : TypeInfo) (z : Value) (bytes : Nat) (k : IntKind) (ht : P.underlying t = some (.slice e)) (hi : P.info? e = some i) (hz : i.zero = some z)
    (hsize : i.size = 1) (hby : i.bytes = bytes) (hzs : z.cells.size = 1) (A : Option Addr) (m c : Nat) (xs : List Int) (hs : a.eval s = .slice none 0 0) (hx : a.eval x = .slice A m c) (hr : ReadsInt w k A m xs) (hm : m ≤ maxLen) (hb : m * bytes ≤ 140737488355328)
    (hK : ∀ A' c' w', Kd.R (Kd.int k) e w' w.heap.size (fun _ => True) (.slice A' m c') xs → Below w.heap.size w w' → wpList P ops Q rest (a.put o.dst (.slice A' m c')) w') :
    wpList P ops Q (o :: rest) a w := by
  obtain ⟨A', c', w', q1, q2, q3⟩ := run_append_nil (P := P) w t o.type e i z bytes k ht (by simp [ht]) hi hz hsize hby hzs A m c xs hr hm hb
  refine wpList_plain hg fun K' hK' => ?_
  unfold Oper.wp execOp
  simp only [hop, resolve, invoke, builtin, Sem.run_bind, Sem.run_pure, Result.andThen_ok, List.map_toArray, List.map_cons, List.map_nil, hs, hx, q1]
  exact hK' _ _ (hK _ _ _ q2 q3)
end
set_option maxHeartbeats 4000000 in
set_option maxRecDepth 100000 in
theorem limbs_calls (w : World) (A : Option Addr) (c : Nat) (xs : List Int) (hr : ReadsInt w .u32 A xs.length xs) (hm : xs.length ≤ 1000) :
    Calls Try.prog 116 #[.slice A xs.length c] w fun e w' => ∃ v : Value, e = .returned v ∧ Kd.R (Kd.int .u32) 123 w' w.heap.size (fun _ => True) v xs ∧ Below w.heap.size w w' := by
  obtain ⟨i0, hi0, hz⟩ := Option.map_eq_some_iff.1 info32
  simp only [Prod.mk.injEq] at hz
  obtain ⟨hz0, hz1, hz2⟩ := hz
  have HI := Aside0.mk (And.intro hi0 (And.intro hz0 (And.intro hz1 hz2)))
  clear hi0 hz0 hz1 hz2
  have HR := Aside0.mk hr
  obtain ⟨n, hn⟩ : ∃ n, xs.length = n := ⟨_, rfl⟩
  rw [hn] at hm HR ⊢
  clear hr hn
  go_enter Try.func116, Try.ntmps116
  go_wp2_with ((with_reducible refine wp_append_nil (o := ⟨some 4, _, _, _, _, _⟩) rfl (.const (.slice none 0 0)) (.tmp 3) 40 rfl 123 i0 _ 4 .u32 Try.underlying40 HI.out.1 HI.out.2.1 HI.out.2.2.1 HI.out.2.2.2 ?_ A n c xs ?_ ?_ HR.out ?_ ?_ ?_); rfl; rfl; rfl; (unfold maxLen; omega); omega; intro A' c' w' hR hB; have HRR := Aside0.mk hR; have HBB := Aside0.mk hB; clear hR hB)
  go_wp2
  go_ret
  exact ⟨_, rfl, HRR.out, HBB.out⟩
set_option maxHeartbeats 4000000 in
set_option maxRecDepth 100000 in
theorem rnorm_calls (w : World) (A : Option Addr) (c : Nat) (xs : List Int) (hr : ReadsInt w .u32 A xs.length xs) (hc : xs.length ≤ c) (hm : xs.length ≤ 1000) :
    Calls Try.prog 125 #[.slice A xs.length c] w fun e w' => ∃ v : Value, e = .returned v ∧ Kd.R (Kd.int .u32) 123 w' w.heap.size (fun _ => True) v (xs.take (keepN xs xs.length)) ∧ Below w.heap.size w w' := by
  obtain ⟨i0, hi0, hz⟩ := Option.map_eq_some_iff.1 info32
  simp only [Prod.mk.injEq] at hz
  obtain ⟨hz0, hz1, hz2⟩ := hz
  have HI := Aside0.mk (And.intro hi0 (And.intro hz0 (And.intro hz1 hz2)))
  clear hi0 hz0 hz1 hz2
  have HR := Aside0.mk hr
  obtain ⟨n, hn⟩ : ∃ n, xs.length = n := ⟨_, rfl⟩
  rw [hn] at hc hm ⊢
  obtain ⟨K, hK⟩ : ∃ K, keepN xs n = K := ⟨_, rfl⟩
  have HK := Aside0.mk hK
  have hKl : K ≤ n := by rw [← hK]; exact keepN_le xs n
  rw [hK]
  have HN := Aside0.mk hn
  have HRK := Aside0.mk (show ReadsInt w .u32 A K (xs.take K) from by
    obtain ⟨h1, h2, h3⟩ := hr
    refine ⟨by rw [List.length_take]; omega, by omega, fun h0 => ?_⟩
    obtain ⟨ad, e, hcc⟩ := h3 (by omega)
    refine ⟨ad, e, fun j hj => ?_⟩
    rw [hcc j (by omega)]
    simp [List.getD_eq_getElem?_getD, hj])
  clear hr hn hK
  go_enter Try.func125, Try.ntmps125
  go_wp2_with fail
  go_loopg [3] n (fun g v3 wr => v3 = .int .i64 g ∧ g ≤ n ∧ keepN xs g = K ∧ wr = w)
  case atStart => exact ⟨rfl, Nat.le_refl _, HK.out, rfl⟩
  case round =>
    obtain ⟨rfl, hj, hk, rfl⟩ := hrel
    by_cases hgo : ∃ j, gk = j + 1 ∧ xs.getD j 0 = 0
    · obtain ⟨j, rfl, hz⟩ := hgo
      obtain ⟨ad, rfl, hcell⟩ := read_at HR.out j (by have := HN.out; omega)
      have e1 : IntKind.i64.wrap (((j + 1 : Nat) : Int) - 1) = (j : Int) := by rw [IntKind.wrap_i64]; omega
      have e2 : ((j + 1 : Nat) : Int) > 0 := by omega
      simp only [keepN] at hk
      rw [if_pos hz] at hk
      rw [hz] at hcell
      go_wp2_with fail
      go_roundg j
      case measure => omega
      case rel => exact ⟨by go_num, by omega, hk, rfl⟩
    · have hgK : gk = K := by
        cases gk with
        | zero => rw [← hk]; rfl
        | succ j =>
          simp only [keepN] at hk
          rw [if_neg (fun hz => hgo ⟨j, rfl, hz⟩)] at hk
          exact hk
      subst hgK
      have H0 := Aside0.mk hgo
      clear hgo hk
      have htk := (print_take_int (k := .u32) (P := Try.prog) 40 123 Try.underlying40 HI.out.1 HI.out.2.2.1 A c xs (gk : Int) (by omega) (by have := HN.out; omega) (by have := HN.out; omega)).1
      rw [HN.out, show (xs.take ((gk : Int)).toNat).length = gk by have := HN.out; simp; omega] at htk
      have HTK := Aside0.mk htk
      have fin : ∀ {Q : Prop}, True := fun {_} => trivial
      rcases Nat.eq_zero_or_pos gk with h0 | h0
      · subst h0
        clear fin
        have htk := HTK.out
        simp only [Int.natCast_zero] at htk
        clear HTK
        go_wp2_with ((with_reducible refine wp_append_nil (o := ⟨some 21, _, _, _, _, _⟩) rfl (.const (.slice none 0 0)) (.tmp 20) 40 rfl 123 i0 _ 4 .u32 Try.underlying40 HI.out.1 HI.out.2.1 HI.out.2.2.1 HI.out.2.2.2 ?_ A 0 c (xs.take 0) ?_ ?_ HRK.out ?_ ?_ ?_); rfl; rfl; rfl; (unfold maxLen; omega); omega; intro A' c' w' hR hB; have HRR := Aside0.mk hR; have HBB := Aside0.mk hB; clear hR hB)
        go_wp2
        go_ret
        exact ⟨_, rfl, HRR.out, HBB.out⟩
      · clear fin
        obtain ⟨ad, rfl, hcell⟩ := read_at HR.out (gk - 1) (by have := HN.out; omega)
        obtain ⟨x, hx⟩ : ∃ x, xs.getD (gk - 1) 0 = x := ⟨_, rfl⟩
        have hz : (x == 0) = false := by rw [beq_eq_false_iff_ne]; exact fun hz => H0.out ⟨gk - 1, by omega, by rw [hx]; exact hz⟩
        rw [hx] at hcell
        have e1 : IntKind.i64.wrap ((gk : Int) - 1) = ((gk - 1 : Nat) : Int) := by rw [IntKind.wrap_i64]; omega
        have e2 : (gk : Int) > 0 := by omega
        have hz' : ¬ x = 0 := by simpa using hz
        clear hx
        go_wp2_with ((with_reducible refine wp_append_nil (o := ⟨some 21, _, _, _, _, _⟩) rfl (.const (.slice none 0 0)) (.tmp 20) 40 rfl 123 i0 _ 4 .u32 Try.underlying40 HI.out.1 HI.out.2.1 HI.out.2.2.1 HI.out.2.2.2 ?_ (some ad) gk c (xs.take gk) ?_ ?_ HRK.out ?_ ?_ ?_); rfl; rfl; rfl; (unfold maxLen; omega); omega; intro A' c' w' hR hB; have HRR := Aside0.mk hR; have HBB := Aside0.mk hB; clear hR hB)
        go_wp2
        go_ret
        exact ⟨_, rfl, HRR.out, HBB.out⟩
theorem two_cells {w : World} {g : Nat} {a b : Value} {t : TypeId} (h : w.heap[g]? = some (.cells #[a, b] t (0, 0))) : w.cell? ⟨g, 0, none⟩ = some a ∧ w.cell? ⟨g, 1, none⟩ = some b ∧ w.frozen? ⟨g, 0, none⟩ = false ∧ w.frozen? ⟨g, 1, none⟩ = false := by
  refine ⟨(blk_cell h 0).trans rfl, (blk_cell h 1).trans rfl, ?_, ?_⟩ <;> simp [World.frozen?, h]
theorem two_put {w : World} {g : Nat} {a b a' b' : Value} {t : TypeId} (h : w.heap[g]? = some (.cells #[a, b] t (0, 0))) : ((w.setCell ⟨g, 0, none⟩ a').setCell ⟨g, 1, none⟩ b').heap[g]? = some (.cells #[a', b'] t (0, 0)) :=
  blk_put (cs := #[a', b]) (blk_put (cs := #[a, b]) h 0 _ rfl) 1 _ rfl
theorem keepN_last (xs : List Int) : ∀ n, n ≤ xs.length → 0 < keepN xs n → xs.getD (keepN xs n - 1) 0 ≠ 0 := by
  intro n
  induction n with
  | zero => intro _ h; simp [keepN] at h
  | succ n ih =>
    intro h0 h
    simp only [keepN] at h ⊢
    by_cases hz : xs.getD n 0 = 0
    · rw [if_pos hz] at h ⊢; exact ih (by omega) h
    · rw [if_neg hz]; simpa using hz
/-- The limbs of a number. -/
def limbs (v : Int) : List Int := if v = 0 then [] else if v < 4294967296 then [v] else [v % 4294967296, v / 4294967296]
theorem limbs_of (v : Int) (h0 : 0 ≤ v) : [v % 4294967296, v / 4294967296].take (keepN [v % 4294967296, v / 4294967296] 2) = limbs v ∧ keepN [v % 4294967296, v / 4294967296] 2 = (limbs v).length := by
  unfold limbs
  by_cases h1 : v = 0
  · subst h1; decide
  · by_cases h2 : v < 4294967296
    · have e1 : v / 4294967296 = 0 := by omega
      have e2 : v % 4294967296 = v := by omega
      rw [if_neg h1, if_pos h2, e1, e2]
      simp [keepN, h1]
    · have e1 : v / 4294967296 ≠ 0 := by omega
      rw [if_neg h1, if_neg h2]
      simp [keepN, e1]
theorem limbs_len (v : Int) : (limbs v).length ≤ 2 := by unfold limbs; (repeat' split) <;> simp
theorem six_cells {w : World} {g : Nat} {a b c d e f : Value} {t : TypeId} (h : w.heap[g]? = some (.cells #[a, b, c, d, e, f] t (0, 0))) : w.cell? ⟨g, 0, none⟩ = some a ∧ w.cell? ⟨g, 1, none⟩ = some b ∧ w.cell? ⟨g, 2, none⟩ = some c ∧ w.cell? ⟨g, 3, none⟩ = some d ∧ w.cell? ⟨g, 4, none⟩ = some e ∧ w.cell? ⟨g, 5, none⟩ = some f :=
  ⟨(blk_cell h 0).trans rfl, (blk_cell h 1).trans rfl, (blk_cell h 2).trans rfl, (blk_cell h 3).trans rfl, (blk_cell h 4).trans rfl, (blk_cell h 5).trans rfl⟩
theorem six_live {w : World} {g : Nat} {a b c d e f : Value} {t : TypeId} (h : w.heap[g]? = some (.cells #[a, b, c, d, e, f] t (0, 0))) : w.frozen? ⟨g, 0, none⟩ = false ∧ w.frozen? ⟨g, 1, none⟩ = false ∧ w.frozen? ⟨g, 2, none⟩ = false ∧ w.frozen? ⟨g, 3, none⟩ = false ∧ w.frozen? ⟨g, 4, none⟩ = false ∧ w.frozen? ⟨g, 5, none⟩ = false := by
  refine ⟨?_, ?_, ?_, ?_, ?_, ?_⟩ <;> simp [World.frozen?, h]
end Go.Proofs.YthdmacdeefohkaaLeaf
