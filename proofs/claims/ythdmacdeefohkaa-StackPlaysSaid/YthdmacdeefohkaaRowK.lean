/- append on a row: what it was before still reads. -/
import Derived.Test.YthdmacdeefohkaaRow
namespace Go.Proofs.YthdmacdeefohkaaRowK
open Go.RowKit Go.Proofs.YthdmacdeefohkaaW.PrintWords Go.Proofs.YthdmacdeefohkaaW.PrintLast Go.Proofs.YthdmacdeefohkaaW.PrintMore Go.Proofs.YthdmacdeefohkaaMem Go.Proofs.YthdmacdeefohkaaRow Go.Proofs
set_option linter.unusedVariables false
set_option linter.unusedSimpArgs false
theorem nums_at (k : IntKind) (xs : List Int) (j : Nat) (hj : j < xs.length) : (nums k xs)[j]? = some (.int k (xs.getD j 0)) := by
  simp [nums, List.getD_eq_getElem?_getD, hj]
/-- A row of numbers reads. -/
theorem Row.reads {w : World} {base n : Nat} {e : TypeId} {k : IntKind} {v : Value} {xs : List Int} (h : Row w base e 1 v n (nums k xs)) : ∃ A c, v = .slice A n c ∧ n ≤ c ∧ ReadsInt w k A n xs ∧ ∀ ad, A = some ad → base ≤ ad.block := by
  have hl : xs.length = n := by have := h.1; simp [nums] at this; exact this
  rcases Nat.eq_zero_or_pos n with h0 | h0
  · obtain ⟨A, c, hv, hc⟩ := h.form
    refine ⟨A, c, hv, hc, ⟨hl, by omega, fun h => by omega⟩, ?_⟩
    intro ad he
    subst he
    exact (h.base_ ad.block (by rw [hv]; rfl)).1
  · obtain ⟨g, c, hv, hc, hb, cur, hg, hs, ht⟩ := h.some_ h0
    have hml : n ≤ 9223372036854775807 := by
      rcases h.2 with ⟨rfl, h1⟩ | ⟨g', cap, cur', rfl, _, _, h1, h2, _⟩
      · omega
      · unfold maxLen at h2; omega
    refine ⟨_, c, hv, hc, ⟨hl, hml, fun _ => ⟨_, rfl, fun j hj => ?_⟩⟩, fun ad he => by injection he with he; subst he; exact hb⟩
    rw [add_plain]
    exact h.cell hv j _ (nums_at k xs j (by omega))
/-- The first m of a row of numbers. -/
theorem nums_take (k : IntKind) (xs : List Int) (m : Nat) : nums k (xs.take m) = (nums k xs).take m := by simp [nums]
section
variable {P : Program}
/-- append on such a row. -/
theorem run_append_keep (w : World) (base : Nat) (t ty e : TypeId) (i : TypeInfo) (z : Value) (size bytes : Nat) (ht : P.underlying t = some (.slice e)) (hi : P.info? e = some i) (hz : i.zero = some z)
    (hsize : i.size = size) (hby : i.bytes = bytes) (hzs : z.cells.size = size) (hsz : 0 < size)
    (v : Value) (n : Nat) (xs : List Value) (hown : Row w base e size v n xs)
    (a : Addr) (m c : Nat) (news : List Value) (hl : news.length = m * size) (hnews : ∀ j u, news[j]? = some u → w.cell? (a.add j) = some u) (h1 : ∀ u ∈ news, u.oneCell' = true)
    (h63 : n + m ≤ maxLen) (hbytes : (n + m) * bytes ≤ 140737488355328) (hbase : base ≤ w.heap.size) :
    ∃ v' w', (Builtin.append_ #[t, t] ty #[v, .slice (some a) m c]).run P w = .ok v' w' ∧ Row w' base e size v' (n + m) (xs ++ news) ∧ Row w' base e size v n xs ∧ w.grownBy w' v.ownBlock ∧ (v'.ownBlock = v.ownBlock ∨ ∃ b, v'.ownBlock = some b ∧ w.heap.size ≤ b) := by
  rcases hown.2 with ⟨rfl, rfl⟩ | ⟨g, cap, cur, rfl, hbg, hg, hnc, hcm, hcs, htake⟩
  · obtain ⟨v', w', hr, h2, h3, _, h5⟩ := run_append_own_at (P := P) w base t ty e i z size bytes ht hi hz hsize hby hzs hsz (.slice none 0 0) 0 xs ⟨hown.1, .inl ⟨rfl, rfl⟩⟩ a m c news hl hnews h1 h63 hbytes hbase
    exact ⟨v', w', hr, .of_own h2, ⟨hown.1, .inl ⟨rfl, rfl⟩⟩, h3, h5.imp id fun h => ⟨_, h, Nat.le_refl _⟩⟩
  · subst hsize
    by_cases hroom : n + m ≤ cap
    · have hms : (n + m) * i.size ≤ cap * i.size := Nat.mul_le_mul_right _ hroom
      have hfit : n * i.size + news.length ≤ cur.size := by rw [hl, ← Nat.add_mul]; omega
      have hr := run_append_room (P := P) w t ty e i ht hi g n cap cur hg a m c news hl hnews h1 hroom hfit
      have hlen : (xs ++ news).length = (n + m) * i.size := by rw [List.length_append, hown.1, hl, Nat.add_mul]
      refine ⟨_, _, hr, ⟨hlen, .inr ⟨g, cap, _, rfl, hbg, setRow_heap w g cur _ e _ hg, hroom, hcm, ?_, ?_⟩⟩, ?_, ⟨rfl, rfl, rfl, by simp, fun k _ hk => setRow_other w g k _ (fun e => hk (by simp [Value.ownBlock, e]))⟩, .inl rfl⟩
      · simp only [List.size_toArray, List.length_append, List.length_take, List.length_drop, Array.length_toList]
        omega
      · rw [htake, ← hlen]
        exact List.take_left
      · refine ⟨hown.1, .inr ⟨g, cap, _, rfl, hbg, setRow_heap w g cur _ e _ hg, hnc, hcm, ?_, ?_⟩⟩
        · simp only [List.size_toArray, List.length_append, List.length_take, List.length_drop, Array.length_toList]
          omega
        · rw [htake]
          simp only [List.append_assoc]
          rw [← hown.1]
          exact List.take_left
    · have holds : ∀ j u, xs[j]? = some u → w.cell? ((⟨g, 0, none⟩ : Addr).add j) = some u := fun j u hu => by rw [add_plain]; exact hown.cell rfl j u hu
      obtain ⟨v', w', hr, h2, h3⟩ := run_append_arg_grows (P := P) w t ty e i z i.size bytes ht hi hz rfl hby hzs hsz ⟨g, 0, none⟩ n cap xs hown.1 holds a m c news hl hnews (by omega) h63 hbytes
      have hv' : ∃ b, v'.ownBlock = some b ∧ w.heap.size ≤ b := by
        rcases h2.2 with ⟨_, h0⟩ | ⟨g', cap', cur', rfl, hb', _⟩
        · omega
        · exact ⟨g', rfl, hb'⟩
      refine ⟨v', w', hr, ?_, ⟨hown.1, .inr ⟨g, cap, cur, rfl, hbg, (h3.block g (blk_lt hg) (by simp)).trans hg, hnc, hcm, hcs, htake⟩⟩, ⟨h3.os, h3.tape, h3.output, h3.size, fun k hk _ => h3.block k hk (by simp)⟩, ?_⟩
      · have := Row.of_own h2
        refine ⟨this.1, ?_⟩
        rcases this.2 with hn | ⟨g', cap', cur', q1, q2, q3⟩
        · exact .inl hn
        · exact .inr ⟨g', cap', cur', q1, Nat.le_trans hbase q2, q3⟩
      · exact .inr hv'
/-- .. in a plain region. -/
theorem wp_append_keep {ops : Array Oper} {rest : List Oper} {o : Oper} {a : Act} {w : World} {Q : Exit → Act → World → Prop}
    (hg : o.guard = none) (s x : Operand) (t : TypeId) (hop : o.op = Op.call { callee := Callee.builtin Builtin.append, args := #[s, x], argTypes := #[t, t] })
    (base : Nat) (e : TypeId) (i : TypeInfo) (z : Value) (size bytes : Nat) (ht : P.underlying t = some (.slice e)) (hi : P.info? e = some i) (hz : i.zero = some z)
    (hsize : i.size = size) (hby : i.bytes = bytes) (hzs : z.cells.size = size) (hsz : 0 < size)
    (v : Value) (n : Nat) (xs : List Value) (hs : a.eval s = v) (hown : Row w base e size v n xs)
    (ad : Addr) (m c : Nat) (news : List Value) (hx : a.eval x = .slice (some ad) m c) (hl : news.length = m * size) (hnews : ∀ j u, news[j]? = some u → w.cell? (ad.add j) = some u) (h1 : ∀ u ∈ news, u.oneCell' = true)
    (h63 : n + m ≤ maxLen) (hbytes : (n + m) * bytes ≤ 140737488355328) (hbase : base ≤ w.heap.size)
    (hK : ∀ A c w', Row w' base e size (.slice A (n + m) c) (n + m) (xs ++ news) → Row w' base e size v n xs → w.grownBy w' v.ownBlock → ((Value.slice A (n + m) c).ownBlock = v.ownBlock ∨ ∃ b, (Value.slice A (n + m) c).ownBlock = some b ∧ w.heap.size ≤ b) → wpList P ops Q rest (a.put o.dst (.slice A (n + m) c)) w') :
    wpList P ops Q (o :: rest) a w := by
  obtain ⟨v', w', hr, h2, h2k, h3, h4⟩ := run_append_keep (P := P) w base t o.type e i z size bytes ht hi hz hsize hby hzs hsz v n xs hown ad m c news hl hnews h1 h63 hbytes hbase
  obtain ⟨A, c', rfl, _⟩ := h2.form
  refine wpList_plain hg fun K' hK' => ?_
  unfold Oper.wp execOp
  simp only [hop, resolve, invoke, builtin, Sem.run_bind, Sem.run_pure, Result.andThen_ok, List.map_toArray, List.map_cons, List.map_nil, hs, hx, hr]
  exact hK' _ _ (hK _ _ _ h2 h2k h3 h4)
/-- .. at an operation that waits for a test. -/
theorem wp_append_keep_w {ops : Array Oper} {rest : List Oper} {o : Oper} {a : Act} {w : World} {Q : Exit → Act → World → Prop}
    (hw : Region.wanted o (yielded ops a.tmps) = true) (s x : Operand) (t : TypeId) (hop : o.op = Op.call { callee := Callee.builtin Builtin.append, args := #[s, x], argTypes := #[t, t] })
    (base : Nat) (e : TypeId) (i : TypeInfo) (z : Value) (size bytes : Nat) (ht : P.underlying t = some (.slice e)) (hi : P.info? e = some i) (hz : i.zero = some z)
    (hsize : i.size = size) (hby : i.bytes = bytes) (hzs : z.cells.size = size) (hsz : 0 < size)
    (v : Value) (n : Nat) (xs : List Value) (hs : a.eval s = v) (hown : Row w base e size v n xs)
    (ad : Addr) (m c : Nat) (news : List Value) (hx : a.eval x = .slice (some ad) m c) (hl : news.length = m * size) (hnews : ∀ j u, news[j]? = some u → w.cell? (ad.add j) = some u) (h1 : ∀ u ∈ news, u.oneCell' = true)
    (h63 : n + m ≤ maxLen) (hbytes : (n + m) * bytes ≤ 140737488355328) (hbase : base ≤ w.heap.size)
    (hK : ∀ A c w', Row w' base e size (.slice A (n + m) c) (n + m) (xs ++ news) → Row w' base e size v n xs → w.grownBy w' v.ownBlock → ((Value.slice A (n + m) c).ownBlock = v.ownBlock ∨ ∃ b, (Value.slice A (n + m) c).ownBlock = some b ∧ w.heap.size ≤ b) → wpList P ops Q rest (a.put o.dst (.slice A (n + m) c)) w') :
    wpList P ops Q (o :: rest) a w := by
  obtain ⟨v', w', hr, h2, h2k, h3, h4⟩ := run_append_keep (P := P) w base t o.type e i z size bytes ht hi hz hsize hby hzs hsz v n xs hown ad m c news hl hnews h1 h63 hbytes hbase
  obtain ⟨A, c', rfl, _⟩ := h2.form
  refine wpList_step fun K' hK' => ?_
  rw [if_pos hw]
  unfold Oper.wp execOp
  simp only [hop, resolve, invoke, builtin, Sem.run_bind, Sem.run_pure, Result.andThen_ok, List.map_toArray, List.map_cons, List.map_nil, hs, hx, hr]
  exact hK' _ _ (hK _ _ _ h2 h2k h3 h4)
end
end Go.Proofs.YthdmacdeefohkaaRowK
