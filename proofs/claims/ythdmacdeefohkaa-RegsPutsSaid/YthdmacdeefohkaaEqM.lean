/- Of makes the registers anew; term.Same and regs.Same of what reads alike. -/
import Derived.Test.YthdmacdeefohkaaTcM
import Derived.Test.YthdmacdeefohkaaNew
import Derived.WalkSpells
import Derived.Deep.RegionHeld3
namespace Go.Proofs.YthdmacdeefohkaaOf
open Go.RowKit Go.Proofs.YthdmacdeefohkaaW.PrintWords Go.Proofs.YthdmacdeefohkaaW.PrintLast Go.Proofs.YthdmacdeefohkaaW.PrintMore Go.Proofs.YthdmacdeefohkaaMem Go.Proofs.YthdmacdeefohkaaLeaf Go.Proofs.YthdmacdeefohkaaBits Go.Proofs.Ythdmacdeefohkaa.PMa Go.Proofs.YthdmacdeefohkaaMTerm Go.Proofs.YthdmacdeefohkaaMVal Go.Proofs.YthdmacdeefohkaaCopyK Go.Proofs.YthdmacdeefohkaaNew Go.Proofs.YthdmacdeefohkaaTc Go.Proofs.YthdmacdeefohkaaRv Go.Proofs.YthdmacdeefohkaaTs Go.Proofs
set_option linter.unusedVariables false
set_option linter.unusedSimpArgs false
theorem M_below {α : Type} {d : Kd α} {w W : World} {base : Nat} {ok : Nat → Prop} {x : α} {cs : List Value} (h : d.M w base ok x cs) (hb : Below w.heap.size w W) : d.M W base (fun _ => True) x cs :=
  d.M_mono (fun _ _ => trivial) (d.M_move (fun k hk => hb.block k hk.2.2.1) (d.M_bound h))
theorem M_set {α : Type} {d : Kd α} {w W : World} {base : Nat} {ok : Nat → Prop} {x : α} {cs : List Value} (h : d.M w base ok x cs) {g : Nat} {C : Array Value} {t : TypeId} (hb : w.heap[g]? = some (.cells C t (0, 0))) (hne : ∀ q, q ∈ d.E → q ≠ t) (k : Mods (fun i => i = g) w W) : d.M W base (fun _ => True) x cs :=
  d.M_mono (fun _ _ => trivial) (d.M_move (fun k' hk => k.block k' hk.2.2.1 (fun e => by
    obtain ⟨q, hq, cells, hc⟩ := hk.2.2.2
    rw [e] at hc
    rw [hb] at hc
    injection hc with hc
    injection hc with _ hc _
    exact hne q hq hc.symm)) (d.M_bound h))
/-- Some registers, in memory of their own. -/
def Regs (w : World) (base : Nat) (cs : Array Value) (xs : List S45) (n : Nat) : Prop := ∀ i, i < n → ∃ c6, k45.M w base (fun _ => True) (xs.getD i z45) c6 ∧ ∀ j, j < 6 → cs[i * 6 + j]? = c6[j]?
theorem Regs.below {w W : World} {base : Nat} {cs : Array Value} {xs : List S45} {n : Nat} (h : Regs w base cs xs n) (hb : Below w.heap.size w W) : Regs W base cs xs n := fun i hi => by
  obtain ⟨c6, q1, q2⟩ := h i hi
  exact ⟨c6, M_below q1 hb, q2⟩
theorem Regs.set_ {w W : World} {base : Nat} {cs : Array Value} {xs : List S45} {n : Nat} (h : Regs w base cs xs n) {g : Nat} {C : Array Value} (hb : w.heap[g]? = some (.cells C 70 (0, 0))) (k : Mods (fun i => i = g) w W) : Regs W base cs xs n := fun i hi => by
  obtain ⟨c6, q1, q2⟩ := h i hi
  exact ⟨c6, M_set q1 hb (show ∀ q, q ∈ [45, 123] → q ≠ 70 by decide) k, q2⟩
/-- The cells behind the registers. -/
structure Tail (cs : Array Value) (v : Value) (fr : Bool) (b p m : Int) : Prop where
  size : cs.size = 101
  c96 : cs[96]? = some v
  c97 : cs[97]? = some (.bool fr)
  c98 : cs[98]? = some (.int .i64 b)
  c99 : cs[99]? = some (.int .i64 p)
  c100 : cs[100]? = some (.int .i64 m)
def cells0 (fr : Bool) (b p m : Int) : List Value := zs6 ++ zs6 ++ zs6 ++ zs6 ++ zs6 ++ zs6 ++ zs6 ++ zs6 ++ zs6 ++ zs6 ++ zs6 ++ zs6 ++ zs6 ++ zs6 ++ zs6 ++ zs6 ++ [.slice none 0 0, .bool fr, .int .i64 b, .int .i64 p, .int .i64 m]
/-- A register's six cells are written. -/
def put6 (cs : Array Value) (i : Nat) (a b c d e f : Value) : Array Value := (((((cs.setIfInBounds (i * 6) a).setIfInBounds (i * 6 + 1) b).setIfInBounds (i * 6 + 2) c).setIfInBounds (i * 6 + 3) d).setIfInBounds (i * 6 + 4) e).setIfInBounds (i * 6 + 5) f
theorem put6_size (cs : Array Value) (i : Nat) (a b c d e f : Value) : (put6 cs i a b c d e f).size = cs.size := by simp [put6]
theorem put6_at (cs : Array Value) (i : Nat) (a b c d e f : Value) (h : i * 6 + 5 < cs.size) : (put6 cs i a b c d e f)[i * 6]? = some a ∧ (put6 cs i a b c d e f)[i * 6 + 1]? = some b ∧ (put6 cs i a b c d e f)[i * 6 + 2]? = some c ∧ (put6 cs i a b c d e f)[i * 6 + 3]? = some d ∧ (put6 cs i a b c d e f)[i * 6 + 4]? = some e ∧ (put6 cs i a b c d e f)[i * 6 + 5]? = some f := by
  refine ⟨?_, ?_, ?_, ?_, ?_, ?_⟩ <;> simp [put6, Array.getElem?_setIfInBounds] <;> omega
theorem put6_ne (cs : Array Value) (i : Nat) (a b c d e f : Value) (k : Nat) (h : k < i * 6 ∨ i * 6 + 5 < k) : (put6 cs i a b c d e f)[k]? = cs[k]? := by
  simp only [put6, Array.getElem?_setIfInBounds]
  repeat (rw [if_neg (by omega)])
theorem six_at {w : World} {g i : Nat} {cs : Array Value} {t : TypeId} {a b c d e f : Value} (h : w.heap[g]? = some (.cells cs t (0, 0))) :
    ((((((w.setCell ⟨g, i * 6, none⟩ a).setCell ⟨g, i * 6 + 1, none⟩ b).setCell ⟨g, i * 6 + 2, none⟩ c).setCell ⟨g, i * 6 + 3, none⟩ d).setCell ⟨g, i * 6 + 4, none⟩ e).setCell ⟨g, i * 6 + 5, none⟩ f).heap[g]? = some (.cells (put6 cs i a b c d e f) t (0, 0)) :=
  blk_set (blk_set (blk_set (blk_set (blk_set (blk_set h _ _) _ _) _ _) _ _) _ _) _ _
theorem six_mods {w : World} {g i : Nat} {a b c d e f : Value} : Mods (fun k => k = g) w ((((((w.setCell ⟨g, i * 6, none⟩ a).setCell ⟨g, i * 6 + 1, none⟩ b).setCell ⟨g, i * 6 + 2, none⟩ c).setCell ⟨g, i * 6 + 3, none⟩ d).setCell ⟨g, i * 6 + 4, none⟩ e).setCell ⟨g, i * 6 + 5, none⟩ f) := by
  have m0 := Mods.refl (fun k => k = g) w
  have m1 := m0.setCell (p := ⟨g, i * 6, none⟩) (.inl rfl) a
  have m2 := m1.setCell (p := ⟨g, i * 6 + 1, none⟩) (.inl rfl) b
  have m3 := m2.setCell (p := ⟨g, i * 6 + 2, none⟩) (.inl rfl) c
  have m4 := m3.setCell (p := ⟨g, i * 6 + 3, none⟩) (.inl rfl) d
  have m5 := m4.setCell (p := ⟨g, i * 6 + 4, none⟩) (.inl rfl) e
  exact m5.setCell (p := ⟨g, i * 6 + 5, none⟩) (.inl rfl) f
theorem six_below {w0 w : World} {g i : Nat} {a b c d e f : Value} (h : Below w0.heap.size w0 w) (hg : w0.heap.size ≤ g) : Below w0.heap.size w0 ((((((w.setCell ⟨g, i * 6, none⟩ a).setCell ⟨g, i * 6 + 1, none⟩ b).setCell ⟨g, i * 6 + 2, none⟩ c).setCell ⟨g, i * 6 + 3, none⟩ d).setCell ⟨g, i * 6 + 4, none⟩ e).setCell ⟨g, i * 6 + 5, none⟩ f) :=
  below_set (below_set (below_set (below_set (below_set (below_set h hg) hg) hg) hg) hg) hg
/-- All cells are single ones. -/
def One (C : Array Value) : Prop := ∀ (j : Nat) (u : Value), C[j]? = some u → u.oneCell' = true
theorem One.put {C : Array Value} (h : One C) {i : Nat} {a b c d e f : Value} (hs : C.size = 101) (hi : i < 16) (hn : ∀ u ∈ [a, b, c, d, e, f], u.oneCell' = true) : One (put6 C i a b c d e f) := by
  intro j u hu
  by_cases hj : j < i * 6 ∨ i * 6 + 5 < j
  · rw [put6_ne _ _ _ _ _ _ _ _ _ hj] at hu
    exact h j u hu
  · have hq := put6_at C i a b c d e f (by omega)
    generalize put6 C i a b c d e f = D at hu hq
    obtain ⟨e0, e1, e2, e3, e4, e5⟩ := hq
    have hc : j = i * 6 ∨ j = i * 6 + 1 ∨ j = i * 6 + 2 ∨ j = i * 6 + 3 ∨ j = i * 6 + 4 ∨ j = i * 6 + 5 := by omega
    rcases hc with h0 | h0 | h0 | h0 | h0 | h0 <;> rw [h0] at hu
    · rw [Option.some.inj (hu.symm.trans e0)]; exact hn _ (by simp)
    · rw [Option.some.inj (hu.symm.trans e1)]; exact hn _ (by simp)
    · rw [Option.some.inj (hu.symm.trans e2)]; exact hn _ (by simp)
    · rw [Option.some.inj (hu.symm.trans e3)]; exact hn _ (by simp)
    · rw [Option.some.inj (hu.symm.trans e4)]; exact hn _ (by simp)
    · rw [Option.some.inj (hu.symm.trans e5)]; exact hn _ (by simp)
theorem One.of_all {C : Array Value} (h : C.all (·.oneCell') = true) : One C := fun j u hu => by
  obtain ⟨hj, e⟩ := Array.getElem?_eq_some_iff.1 hu
  exact e ▸ (Array.all_eq_true.1 h) j hj
theorem One.all {C : Array Value} (h : One C) : C.all (·.oneCell') = true := Array.all_eq_true.2 fun j hj => h j _ (Array.getElem?_eq_getElem hj)
theorem Regs.put {w : World} {base : Nat} {cs : Array Value} {xs : List S45} {i : Nat} (h : Regs w base cs xs i) (hs : cs.size = 101) (hi : i < 16) {a b c d e f : Value} (hl : k45.M w base (fun _ => True) (xs.getD i z45) [a, b, c, d, e, f]) :
    Regs w base (put6 cs i a b c d e f) xs (i + 1) := by
  intro k hk
  rcases Nat.lt_or_ge k i with hlt | hge
  · obtain ⟨c6, q1, q2⟩ := h k hlt
    exact ⟨c6, q1, fun j hj => by rw [put6_ne _ _ _ _ _ _ _ _ _ (by omega)]; exact q2 j hj⟩
  · obtain rfl : k = i := by omega
    refine ⟨[a, b, c, d, e, f], hl, fun j hj => ?_⟩
    obtain ⟨e0, e1, e2, e3, e4, e5⟩ := put6_at cs k a b c d e f (by omega)
    match j, hj with
    | 0, _ => exact e0
    | 1, _ => exact e1
    | 2, _ => exact e2
    | 3, _ => exact e3
    | 4, _ => exact e4
    | 5, _ => exact e5
theorem Tail.put {cs : Array Value} {v : Value} {fr : Bool} {b p m : Int} (h : Tail cs v fr b p m) {i : Nat} (hi : i < 16) (a0 a1 a2 a3 a4 a5 : Value) : Tail (put6 cs i a0 a1 a2 a3 a4 a5) v fr b p m := by
  refine ⟨by rw [put6_size]; exact h.size, ?_, ?_, ?_, ?_, ?_⟩ <;> rw [put6_ne _ _ _ _ _ _ _ _ _ (by omega)]
  · exact h.c96
  · exact h.c97
  · exact h.c98
  · exact h.c99
  · exact h.c100
theorem infoFr : (Try.prog.info? 73).map (fun i => (i.zero, i.size, i.bytes)) = some (some (.agg #[.int .i64 0, .slice none 0 0]), kFr.sz, 32) := by kernel_rfl
theorem Regs.grown {w W : World} {base : Nat} {cs : Array Value} {xs : List S45} {n : Nat} (h : Regs w base cs xs n) {v : Value} (hty : ∀ k, v.ownBlock = some k → ∃ cells, w.heap[k]? = some (.cells cells 73 (0, 0))) (hg : w.grownBy W v.ownBlock) : Regs W base cs xs n := fun i hi => by
  obtain ⟨c6, q1, q2⟩ := h i hi
  refine ⟨c6, k45.M_mono (fun _ _ => trivial) (k45.M_move (fun k' hk => (Mods.of_grown hg).block k' hk.2.2.1 (fun e => ?_)) (k45.M_bound q1)), q2⟩
  obtain ⟨q, hq, cells, hc⟩ := hk.2.2.2
  obtain ⟨cells', hc'⟩ := hty k' e.symm
  rw [hc] at hc'
  injection hc' with hc'
  injection hc' with _ hc' _
  exact (show ∀ q, q ∈ [45, 123] → q ≠ 73 by decide) q hq hc'
theorem R_set {w W : World} {base : Nat} {ok : Nat → Prop} {v : Value} {fs : List Frm} (h : Kd.R kFr 73 w base ok v fs) {g : Nat} {C : Array Value} (hb : w.heap[g]? = some (.cells C 70 (0, 0))) (k : Mods (fun i => i = g) w W) : Kd.R kFr 73 W base (fun _ => True) v fs := by
  have := M_set (d := Kd.slice 73 kFr) (x := fs) (cs := [v]) (base := base) (ok := ok) ⟨v, rfl, h⟩ hb (show ∀ q, q ∈ [73, 45, 45, 123] → q ≠ 70 by decide) k
  obtain ⟨v', e, h'⟩ := this
  injection e with e _
  rw [e]; exact h'
theorem set96_mods {w : World} {g : Nat} {v : Value} : Mods (fun k => k = g) w (w.setCell ⟨g, 96, none⟩ v) := (Mods.refl (fun k => k = g) w).setCell (p := ⟨g, 96, none⟩) (.inl rfl) v
theorem Tail.set96 {cs : Array Value} {v : Value} {fr : Bool} {b p m : Int} (h : Tail cs v fr b p m) (u : Value) : Tail (cs.setIfInBounds 96 u) u fr b p m := by
  have hs := h.size
  refine ⟨by simpa using hs, ?_, ?_, ?_, ?_, ?_⟩ <;> rw [Array.getElem?_setIfInBounds]
  · rw [if_pos rfl, if_pos (by omega)]
  · rw [if_neg (by omega)]; exact h.c97
  · rw [if_neg (by omega)]; exact h.c98
  · rw [if_neg (by omega)]; exact h.c99
  · rw [if_neg (by omega)]; exact h.c100
theorem Regs.at96 {w : World} {base : Nat} {cs : Array Value} {xs : List S45} (h : Regs w base cs xs 16) (u : Value) : Regs w base (cs.setIfInBounds 96 u) xs 16 := fun i hi => by
  obtain ⟨c6, q1, q2⟩ := h i hi
  exact ⟨c6, q1, fun j hj => by rw [Array.getElem?_setIfInBounds, if_neg (by omega)]; exact q2 j hj⟩
theorem One.set96 {C : Array Value} (h : One C) {u : Value} (hu : u.oneCell' = true) : One (C.setIfInBounds 96 u) := by
  intro j x hx
  rw [Array.getElem?_setIfInBounds] at hx
  split at hx
  · split at hx
    · injection hx with hx; rw [← hx]; exact hu
    · cases hx
  · exact h j x hx
def T9 : Bool × List (List Nat × List Nat) := (true, [([], []), ([0], [0]), ([], []), ([2], [2]), ([], []), ([3, 4], [3, 4]), ([5], [5]), ([6], [6]), ([], []), ([8], [8]), ([], []), ([9, 10], [9, 10]), ([11], [11]), ([12], [12]), ([13], [13]), ([7, 14], [7, 14]), ([15], [15]), ([1, 16, 14], [1, 16]), ([0, 1, 2, 3, 4, 5, 6, 7, 8, 9, 10, 11, 12, 13, 14, 15, 16, 17], []), ([18, 17, 17, 0, 1, 2, 3, 4, 5, 6, 7, 8, 9, 10, 11, 12, 13, 14, 15, 16, 17], [17, 18])])
def B9 : List Nat := [0, 1, 0, 4, 0, 28, 60, 124, 0, 256, 0, 1792, 3840, 7936, 16128, 32764, 65532, 131071, 262143, 524287]
theorem tab9 : rtab .any (opsOf Try.f69 9) = T9 := by kernel_rfl
theorem bits9 : waitsOk T9.2 B9 = true := by kernel_rfl
theorem setRow_mods (w : World) (g : Nat) (C : Array Value) : Mods (fun k => k = g) w (w.setRow g C) := by
  have hb := below_setRow (Below.refl 0 w) (Nat.zero_le g) C
  exact ⟨hb.os, hb.tape, hb.output, hb.size, fun k hk hn => setRow_other w g k C hn⟩
theorem rd_of {w : World} {base : Nat} {C : Array Value} {v : Value} {r : RV} (ht : Tail C v r.fr r.back r.pc r.room) (hl : r.xs.length = 16) (hr : Regs w base C r.xs 16) (hv : Kd.R kFr 73 w base (fun _ => True) v r.fs) : Rd w C r := by
  obtain ⟨A, c, rfl, hc, hC⟩ := Kd.R_reads hv
  refine ⟨ht.size, hl, fun i hi => ?_, ⟨A, c, ht.c96, hc, hC⟩, ht.c97, ht.c98, ht.c99, ht.c100⟩
  obtain ⟨c6, q1, q2⟩ := hr i hi
  obtain ⟨A2, c2, A5, c5, rfl, l2, g2, l5, g5⟩ := k45_open (k45.K_of_M q1)
  exact ⟨A2, c2, A5, c5, ⟨g2, l2, g5, l5⟩, fun j hj => by rw [q2 j hj]; unfold cellsT; simp⟩
/-- Registers read so, whatever is written into blocks of registers. -/
def Stay (w : World) (cs : Array Value) (r : RV) : Prop := ∀ w', Mods (fun k => ∃ C, w.heap[k]? = some (.cells C 70 (0, 0))) w w' → Rd w' cs r
theorem Stay.rd {w : World} {cs : Array Value} {r : RV} (h : Stay w cs r) : Rd w cs r := h w (Mods.refl _ _)
theorem Stay.below {w W : World} {cs : Array Value} {r : RV} (h : Stay w cs r) (hb : Below w.heap.size w W) : Stay W cs r := fun W' k => h W' ⟨k.os.trans hb.os, k.tape.trans hb.tape, k.output.trans hb.output, Nat.le_trans hb.size k.size, fun i hi hn => (k.block i (Nat.lt_of_lt_of_le hi hb.size) (fun ⟨C, e⟩ => hn ⟨C, (hb.block i hi).symm.trans e⟩)).trans (hb.block i hi)⟩
theorem Stay.setRow {w : World} {cs : Array Value} {r : RV} (h : Stay w cs r) {g : Nat} {C : Array Value} (hg : w.heap[g]? = some (.cells C 70 (0, 0))) (D : Array Value) : Stay (w.setRow g D) cs r := fun W' k => by
  have m := setRow_mods w g D
  refine h W' ⟨k.os.trans m.os, k.tape.trans m.tape, k.output.trans m.output, Nat.le_trans m.size k.size, fun i hi hn => ?_⟩
  by_cases he : i = g
  · subst he; exact absurd ⟨C, hg⟩ hn
  · exact (k.block i (Nat.lt_of_lt_of_le hi m.size) (fun ⟨E, e⟩ => hn ⟨E, (m.block i hi he).symm.trans e⟩)).trans (m.block i hi he)
theorem M_many {α : Type} {d : Kd α} {w W : World} {base : Nat} {ok : Nat → Prop} {x : α} {cs : List Value} (h : d.M w base ok x cs) (hne : ∀ q, q ∈ d.E → q ≠ 70) (k : Mods (fun k => ∃ C, w.heap[k]? = some (.cells C 70 (0, 0))) w W) : d.M W base (fun _ => True) x cs :=
  d.M_mono (fun _ _ => trivial) (d.M_move (fun k' hk => k.block k' hk.2.2.1 (fun ⟨C, e⟩ => by
    obtain ⟨q, hq, cells, hc⟩ := hk.2.2.2
    rw [e] at hc
    injection hc with hc
    injection hc with _ hc _
    exact hne q hq hc.symm)) (d.M_bound h))
theorem stay_of {w : World} {base : Nat} {C : Array Value} {v : Value} {r : RV} (ht : Tail C v r.fr r.back r.pc r.room) (hl : r.xs.length = 16) (hr : Regs w base C r.xs 16) (hv : Kd.R kFr 73 w base (fun _ => True) v r.fs) : Stay w C r := fun W k => by
  refine rd_of (base := base) (v := v) ht hl (fun i hi => ?_) ?_
  · obtain ⟨c6, q1, q2⟩ := hr i hi
    exact ⟨c6, M_many q1 (show ∀ q, q ∈ [45, 123] → q ≠ 70 by decide) k, q2⟩
  · have := M_many (d := Kd.slice 73 kFr) (x := r.fs) (cs := [v]) (base := base) (ok := fun _ => True) ⟨v, rfl, hv⟩ (show ∀ q, q ∈ [73, 45, 45, 123] → q ≠ 70 by decide) k
    obtain ⟨v', e, h'⟩ := this
    injection e with e _
    rw [e]; exact h'
def OfPost (r : RV) (w : World) (e : Ending) (w' : World) : Prop := ∃ cs', e = .returned (.agg cs') ∧ Stay w' cs' r ∧ Below w.heap.size w w'
set_option maxHeartbeats 8000000 in
set_option maxRecDepth 100000 in
theorem of_calls (w : World) (cs : Array Value) (r : RV) (h : Rd w cs r) (hf : FewR r) : Calls Try.prog 69 #[.agg cs] w (OfPost r w) := by
  have hu45 := Try.underlying45
  have hu92 := Try.underlying92
  have hu70 := Try.underlying70
  have hu67 := Try.underlying67
  obtain ⟨F, fc, h96, hfc, hF⟩ := h.2.2.2.1
  obtain ⟨h97, h98, h99, h100⟩ := h.2.2.2.2
  have hz : Try.zeroCells70.size = 101 := rfl
  have hR0 : ∀ fr b p m, ((((Try.zeroCells70.setIfInBounds 97 (.bool fr)).setIfInBounds 98 (.int .i64 b)).setIfInBounds 99 (.int .i64 p)).setIfInBounds 100 (.int .i64 m)) = (cells0 fr b p m).toArray := fun _ _ _ _ => rfl
  have hl0 : ∀ fr b p m, (cells0 fr b p m).toArray.size = 101 := fun _ _ _ _ => rfl
  have h10 : ∀ fr b p m, (cells0 fr b p m).toArray.all (·.oneCell') = true := fun fr b p m => by rw [List.all_toArray]; rfl
  have ht0 : ∀ fr b p m, Tail (cells0 fr b p m).toArray (.slice none 0 0) fr b p m := fun _ _ _ _ => ⟨rfl, rfl, rfl, rfl, rfl, rfl⟩
  obtain ⟨Z, hZ⟩ : ∃ Z, Try.zeroCells70 = Z := ⟨_, rfl⟩
  obtain ⟨C0, hC0⟩ : ∃ C0, (cells0 r.fr r.back r.pc r.room).toArray = C0 := ⟨_, rfl⟩
  have hR := hR0 r.fr r.back r.pc r.room
  have HL0 := hl0 r.fr r.back r.pc r.room
  have H10 := h10 r.fr r.back r.pc r.room
  have HT0 := Aside0.mk (ht0 r.fr r.back r.pc r.room)
  rw [hC0] at hR HL0 H10 HT0
  rw [hZ] at hR hz
  clear hR0 hl0 h10 ht0 hC0
  obtain ⟨V, hV⟩ : ∃ V, (w.alloc (.cells cs 92)).alloc (.cells Z 70) = V := ⟨_, rfl⟩
  obtain ⟨W, hW⟩ : ∃ W, V.alloc (.cells Z 70) = W := ⟨_, rfl⟩
  obtain ⟨g, hg⟩ : ∃ g, w.heap.size = g := ⟨_, rfl⟩
  obtain ⟨g2, hg2⟩ : ∃ g2, g + 1 = g2 := ⟨_, rfl⟩
  obtain ⟨g3, hg3⟩ : ∃ g3, g2 + 1 = g3 := ⟨_, rfl⟩
  have b0 : W.heap[g]? = some (.cells cs 92 (0, 0)) := by rw [← hW, ← hV, ← hg]; exact blk_alloc (blk_alloc (heap_alloc_new _ _) _) _
  have b0v : V.heap[g]? = some (.cells cs 92 (0, 0)) := by rw [← hV, ← hg]; exact blk_alloc (heap_alloc_new _ _) _
  have b2 : W.heap[g2]? = some (.cells Z 70 (0, 0)) := by
    have := heap_alloc_new (w.alloc (.cells cs 92)) (.cells Z 70)
    rw [show (w.alloc (.cells cs 92)).heap.size = w.heap.size + 1 by simp] at this
    rw [← hW, ← hV, ← hg2, ← hg]
    exact blk_alloc this _
  have b3 : W.heap[g3]? = some (.cells Z 70 (0, 0)) := by
    have := heap_alloc_new ((w.alloc (.cells cs 92)).alloc (.cells Z 70)) (.cells Z 70)
    rw [show ((w.alloc (.cells cs 92)).alloc (.cells Z 70)).heap.size = w.heap.size + 2 by simp] at this
    rw [← hW, ← hV, ← hg3, ← hg2, ← hg]
    exact this
  have hb : Below w.heap.size w W := by rw [← hW, ← hV]; exact below_alloc (below_alloc (below_alloc (Below.refl _ _) _) _) _
  have hvs : V.heap.size = g3 := by rw [← hV]; simp; omega
  obtain ⟨W1, hW1⟩ : ∃ W1, W.setRow g3 C0 = W1 := ⟨_, rfl⟩
  have c3 : W1.heap[g3]? = some (.cells C0 70 (0, 0)) := by rw [← hW1]; exact setRow_heap W g3 _ _ _ _ b3
  have c0 : W1.heap[g]? = some (.cells cs 92 (0, 0)) := by rw [← hW1, setRow_other W g3 g _ (by omega)]; exact b0
  have c2 : W1.heap[g2]? = some (.cells Z 70 (0, 0)) := by rw [← hW1, setRow_other W g3 g2 _ (by omega)]; exact b2
  have hb1 : Below w.heap.size w W1 := by rw [← hW1]; exact below_setRow hb (by omega) _
  have d1 : V.cell? ⟨g, 97, none⟩ = some (.bool r.fr) := (blk_cell b0v 97).trans h97
  have d2 : V.cell? ⟨g, 98, none⟩ = some (.int .i64 r.back) := (blk_cell b0v 98).trans h98
  have d3 : V.cell? ⟨g, 99, none⟩ = some (.int .i64 r.pc) := (blk_cell b0v 99).trans h99
  have d4 : V.cell? ⟨g, 100, none⟩ = some (.int .i64 r.room) := (blk_cell b0v 100).trans h100
  have HS0 := Aside0.mk (show (Try.prog.info? 70).map (·.size) = some C0.size by rw [HL0]; kernel_rfl)
  have HZ0 := Aside0.mk (show Z.size = C0.size from hz.trans HL0.symm)
  have H10' := Aside0.mk H10
  have HB3 := Aside0.mk b3
  have HRd := Aside0.mk h
  have HF := Aside0.mk hF
  have hcf : cs[96]? = some (.slice F r.fs.length fc) := h96
  have HFW := Aside0.mk hf
  have HBW := Aside0.mk hb1
  have HC3 := Aside0.mk c3
  have HC0 := Aside0.mk c0
  have HC2 := Aside0.mk c2
  have HGG := Aside0.mk (show g < g2 ∧ g2 < g3 ∧ w.heap.size = g by omega)
  clear b0 b0v b2 b3 hb c3 c0 c2 hb1 h hF hf H10 h96 h97 h98 h99 h100
  go_enter Try.func69, Try.ntmps69
  go_wp2_with (first
    | ((with_reducible refine wpList_store_row (o := ⟨none, _, _, _, _, _⟩) rfl 70 (.tmp 3) (.tmp 14) rfl g3 C0 ?_ ?_ 70 Z HB3.out HS0.out HZ0.out H10'.out ?_); rfl; rfl))
  have HK := Aside0.mk (show ∀ C : Array Value, C.size = 101 → ∀ j, j < 101 → ∃ u, C[j]? = some u from fun C hC j hj => ⟨_, Array.getElem?_eq_getElem (by omega)⟩)
  clear d1 d2 d3 d4 hW hV hvs hW1 hR hZ
  go_loopg [4] 17 (fun k v4 wr => ∃ (i : Nat) (C : Array Value), v4 = .int .i64 i ∧ i ≤ 16 ∧ k = 17 - i ∧ Aside0 (wr.heap[g3]? = some (.cells C 70 (0, 0))) ∧ Aside0 (Tail C (.slice none 0 0) r.fr r.back r.pc r.room) ∧ Aside0 (Regs wr w.heap.size C r.xs i) ∧ Aside0 (One C) ∧ Aside0 (Below w.heap.size w wr) ∧ Aside0 (wr.heap[g]? = some (.cells cs 92 (0, 0))) ∧ Aside0 (wr.heap[g2]? = some (.cells Z 70 (0, 0))))
  case atStart => exact ⟨0, C0, rfl, by omega, rfl, HC3, HT0, ⟨fun i hi => by omega⟩, ⟨One.of_all H10'.out⟩, HBW, HC0, HC2⟩
  case round =>
    clear HC3 HT0 H10' HBW HC0 HC2 HB3 HS0 HZ0
    obtain ⟨i, C, rfl, hi, rfl, H3, HT, HRG, HONE, HB, H0, H2⟩ := hrel
    by_cases hlt : i < 16
    · have b1 : (i : Int) < 16 := by omega
      obtain ⟨A2, c2, A5, c5, hl, k0, k1, k2, k3, k4, k5⟩ := (HRd.out.below HB.out).reg H0.out i hlt
      have HC := Aside0.mk (term_calls 40 (by omega) _ (HFW.out.2.1 i hlt) wr hl)
      unfold cellsT at HC
      obtain ⟨x, hx⟩ : ∃ x, r.xs.getD i z45 = x := ⟨_, rfl⟩
      rw [hx] at HC k0 k1 k2 k3 k4 k5
      have HXX := Aside0.mk hx
      clear hx hl
      go_wp2_with fail
      refine HC.out.mono ?_
      rintro e w3 ⟨B2, e2, B5, e5, rfl, hl3, hM3, hb3⟩
      clear HC k0 k1 k2 k3 k4 k5
      have h3 := (hb3.block g3 (blk_lt H3.out)).trans H3.out
      have H3' := Aside0.mk h3
      have H0' := Aside0.mk ((hb3.block g (blk_lt H0.out)).trans H0.out)
      have H2' := Aside0.mk ((hb3.block g2 (blk_lt H2.out)).trans H2.out)
      have HB' := Aside0.mk (below_step HB.out hb3)
      have HRG' := Aside0.mk (HRG.out.below hb3)
      have HM3 := Aside0.mk (k45.M_lower (HB.out.size) hM3)
      obtain ⟨u0, e0_⟩ := HK.out C HT.out.size (i * 6) (by omega)
      obtain ⟨u1, e1_⟩ := HK.out C HT.out.size (i * 6 + 1) (by omega)
      obtain ⟨u2, e2_⟩ := HK.out C HT.out.size (i * 6 + 2) (by omega)
      obtain ⟨u3, e3_⟩ := HK.out C HT.out.size (i * 6 + 3) (by omega)
      obtain ⟨u4, e4_⟩ := HK.out C HT.out.size (i * 6 + 4) (by omega)
      obtain ⟨u5, e5_⟩ := HK.out C HT.out.size (i * 6 + 5) (by omega)
      have p0 := (blk_cell h3 (i * 6)).trans e0_
      have p1 := (blk_cell h3 (i * 6 + 1)).trans e1_
      have p2 := (blk_cell h3 (i * 6 + 2)).trans e2_
      have p3 := (blk_cell h3 (i * 6 + 3)).trans e3_
      have p4 := (blk_cell h3 (i * 6 + 4)).trans e4_
      have p5 := (blk_cell h3 (i * 6 + 5)).trans e5_
      have f0 := blk_frozen h3 (i * 6)
      have f1 := blk_frozen h3 (i * 6 + 1)
      have f2 := blk_frozen h3 (i * 6 + 2)
      have f3 := blk_frozen h3 (i * 6 + 3)
      have f4 := blk_frozen h3 (i * 6 + 4)
      have f5 := blk_frozen h3 (i * 6 + 5)
      clear h3 hb3 hl3 hM3 H3 H0 H2 HB HRG e0_ e1_ e2_ e3_ e4_ e5_
      have HOO := Aside0.mk (k45.K_one (k45.K_of_M HM3.out))
      go_wp2_with fail
      go_roundg (17 - (i + 1))
      case measure => omega
      case rel => exact ⟨i + 1, _, by go_num, by omega, rfl, ⟨six_at H3'.out⟩, ⟨HT.out.put hlt _ _ _ _ _ _⟩, ⟨((HRG'.out.put HT.out.size hlt (by rw [HXX.out]; exact HM3.out)).set_ H3'.out six_mods)⟩, ⟨HONE.out.put HT.out.size hlt HOO.out⟩, ⟨six_below HB'.out (by have := HGG.out; omega)⟩, ⟨six_mods.blk H0'.out (by have := HGG.out; omega)⟩, ⟨six_mods.blk H2'.out (by have := HGG.out; omega)⟩⟩
    · have hie : i = 16 := by omega
      subst hie
      -- the second loop
      have HRGA := Aside0.mk HRG.out
      have HN8 := HFW.out.1
      obtain ⟨n, hn⟩ : ∃ n, r.fs.length = n := ⟨_, rfl⟩
      rw [hn] at HF hfc HN8
      have HNN := Aside0.mk hn
      have q96 := HRd.out.2.2.2.1
      have HV0 := Aside0.mk (show Kd.R kFr 73 wr w.heap.size (fun _ => True) (.slice none 0 0) (r.fs.take 0) from Kd.R_nil _ _ _ _ _)
      have HCF := Aside0.mk hcf
      clear hn q96
      go_wp2_with fail
      go_loopg [5] (n + 1) (fun k v5 wq => ∃ (i : Nat) (C : Array Value) (v : Value), v5 = .int .i64 i ∧ i ≤ n ∧ k = n + 1 - i ∧ Aside0 (wq.heap[g3]? = some (.cells C 70 (0, 0))) ∧ Aside0 (Tail C v r.fr r.back r.pc r.room) ∧ Aside0 (Regs wq w.heap.size C r.xs 16) ∧ Aside0 (One C) ∧ Aside0 (Below w.heap.size w wq) ∧ Aside0 (wq.heap[g]? = some (.cells cs 92 (0, 0))) ∧ Aside0 (wq.heap[g2]? = some (.cells Z 70 (0, 0))) ∧ Aside0 (Kd.R kFr 73 wq w.heap.size (fun _ => True) v (r.fs.take i)))
      case atStart => exact ⟨0, C, _, rfl, by omega, by omega, H3, HT, HRGA, HONE, HB, H0, H2, HV0⟩
      case round =>
        clear HV0 HRGA H3 HT HRG HONE HB H0 H2
        obtain ⟨i, C, v, rfl, hi, rfl, H3, HT, HRG, HONE, HB, H0, H2, HV⟩ := hrel
        have q2 := (blk_cell H0.out 96).trans HCF.out
        rw [HNN.out] at q2
        by_cases hlt : i < n
        · have b1 : (i : Int) < (n : Int) := by omega
          obtain ⟨ad, Y, yc, rfl, t0, t1, hyc, hY⟩ := fr_at HF.out i hlt
          have HLY := Aside0.mk (HFW.out.2.2 i (by rw [HNN.out]; exact hlt))
          have hpe : (r.fs.take i) ++ [((r.fs.getD i (0, [])).1, (r.fs.getD i (0, [])).2)] = r.fs.take (i + 1) := by
            have hi' : i < r.fs.length := by rw [HNN.out]; exact hlt
            rw [List.take_succ_eq_append_getElem hi', List.getD_eq_getElem?_getD, List.getElem?_eq_getElem hi']
            rfl
          have HPE := Aside0.mk hpe
          generalize (r.fs.getD i (0, [])).1 = back at t0 HPE
          generalize (r.fs.getD i (0, [])).2 = ys at t1 hyc hY HLY HPE
          have HYC := Aside0.mk hyc
          have HTK := Aside0.mk (show (r.fs.take i).length ≤ 8 by rw [List.length_take]; omega)
          generalize r.fs.take i = fs0 at HV HPE HTK
          have q3 := pw_cell_below HB.out t0
          have q4 := pw_cell_below HB.out t1
          have HY := Aside0.mk (Kd.C_below hY HB.out)
          have q1 := (blk_cell H3.out 96).trans HT.out.c96
          have T0 := Aside0.mk t0
          have T1 := Aside0.mk t1
          clear t0 t1 hpe hY hyc
          go_wp2_with fail
          have H3_ := Aside0.mk (show wr.drew.heap[g3]? = some (.cells C 70 (0, 0)) from H3.out)
          have H0_ := Aside0.mk (show wr.drew.heap[g]? = some (.cells cs 92 (0, 0)) from H0.out)
          have H2_ := Aside0.mk (show wr.drew.heap[g2]? = some (.cells Z 70 (0, 0)) from H2.out)
          have HB_ := Aside0.mk (show Below w.heap.size w wr.drew from below_drew HB.out)
          have HRG_ := Aside0.mk (show Regs wr.drew w.heap.size C r.xs 16 from HRG.out.below (below_drew (Below.refl _ _)))
          have HV_ := Aside0.mk (show Kd.R kFr 73 wr.drew w.heap.size (fun _ => True) v fs0 from Kd.R_below HV.out (below_drew (Below.refl _ _)))
          have HY_ := Aside0.mk (show Kd.C k45 wr.drew Y ys.length ys from Kd.C_below HY.out (below_drew (Below.refl _ _)))
          refine start_ (n := 20) (S := fun w' => w'.cell? ⟨g3, 96, none⟩ = some v ∧ w'.cell? ⟨g, 96, none⟩ = some (.slice (some ad) n fc) ∧ w'.cell? (ad.add (i * 2)) = some (.int .i64 back) ∧ w'.cell? ⟨(ad.add (i * 2)).block, (ad.add (i * 2)).off + 1, none⟩ = some (.slice Y ys.length yc)) (ds := [19]) #[false, false, false, false, false, false, false, false, false, false, false, false, false, false, false, false, false, false, false, false] (by kernel_rfl) rfl rfl ⟨q1, q2, q3, q4⟩ (fun hHeld => ?_); refine with_tabW tab9 bits9 (fun HT_ HW_ => ?_)
          clear H3 H0 H2 HB HRG HV HY q1 q2 q3 q4
          generalize wr.drew = wd at H3_ H0_ H2_ HB_ HRG_ HV_ HY_ hHeld ⊢
          refine pure_ (i := 0) (N := (some 34)) (v := ?_) (a' := ?_) #[true, false, false, false, false, false, false, false, false, false, false, false, false, false, false, false, false, false, false, false] rfl rfl (any_of HT_.out (by kernel_rfl)) (fun _ _ _ h => h) (Or.inl ⟨by rfl, ?_⟩) ?_ ?_
          rotate_left; (intro w'; go_simp; with_reducible rfl)
          rotate_left; (simp only [Act.put, List.setIfInBounds_toArray, List.set_cons_zero, List.set_cons_succ, i64_w, i32_w]; rfl)
          refine pure_ (i := 2) (N := (some 36)) (v := ?_) (a' := ?_) #[true, false, true, false, false, false, false, false, false, false, false, false, false, false, false, false, false, false, false, false] rfl rfl (any_of HT_.out (by kernel_rfl)) (fun _ _ _ h => h) (Or.inl ⟨by rfl, ?_⟩) ?_ ?_
          rotate_left; (intro w'; go_simp; with_reducible rfl)
          rotate_left; (simp only [Act.put, List.setIfInBounds_toArray, List.set_cons_zero, List.set_cons_succ, i64_w, i32_w]; rfl)
          refine pure_ (i := 4) (N := (some 38)) (v := ?_) (a' := ?_) #[true, false, true, false, true, false, false, false, false, false, false, false, false, false, false, false, false, false, false, false] rfl rfl (any_of HT_.out (by kernel_rfl)) (fun _ _ _ h => h) (Or.inl ⟨by rfl, ?_⟩) ?_ ?_
          rotate_left; (intro w'; go_simp; with_reducible rfl)
          rotate_left; (simp only [Act.put, List.setIfInBounds_toArray, List.set_cons_zero, List.set_cons_succ, i64_w, i32_w]; rfl)
          refine pure_ (i := 8) (N := (some 42)) (v := ?_) (a' := ?_) #[true, false, true, false, true, false, false, false, true, false, false, false, false, false, false, false, false, false, false, false] rfl rfl (any_of HT_.out (by kernel_rfl)) (fun _ _ _ h => h) (Or.inl ⟨by rfl, ?_⟩) ?_ ?_
          rotate_left; (intro w'; go_simp; with_reducible rfl)
          rotate_left; (simp only [Act.put, List.setIfInBounds_toArray, List.set_cons_zero, List.set_cons_succ, i64_w, i32_w]; rfl)
          refine pure_ (i := 10) (N := (some 44)) (v := ?_) (a' := ?_) #[true, false, true, false, true, false, false, false, true, false, true, false, false, false, false, false, false, false, false, false] rfl rfl (any_of HT_.out (by kernel_rfl)) (fun _ _ _ h => h) (Or.inl ⟨by rfl, ?_⟩) ?_ ?_
          rotate_left; (intro w'; go_simp; with_reducible rfl)
          rotate_left; (simp only [Act.put, List.setIfInBounds_toArray, List.set_cons_zero, List.set_cons_succ, i64_w, i32_w]; rfl)
          refine take_ (i := 1) (N := (some 35)) (v := ?_) (a' := ?_) #[true, true, true, false, true, false, false, false, true, false, true, false, false, false, false, false, false, false, false, false] rfl rfl (take_ofW HT_.out HW_.out (by kernel_rfl)) (fun _ _ _ h => h) (Or.inl ⟨by rfl, ?_⟩) hHeld ?_ ?_
          rotate_left; (intro w' hs; obtain ⟨s0, s1, s2, s3⟩ := hs; go_simp; with_reducible rfl)
          rotate_left; (simp only [Act.put, List.setIfInBounds_toArray, List.set_cons_zero, List.set_cons_succ, i64_w, i32_w]; rfl)
          refine take_ (i := 3) (N := (some 37)) (v := ?_) (a' := ?_) #[true, true, true, true, true, false, false, false, true, false, true, false, false, false, false, false, false, false, false, false] rfl rfl (take_ofW HT_.out HW_.out (by kernel_rfl)) (fun _ _ _ h => h) (Or.inl ⟨by rfl, ?_⟩) hHeld ?_ ?_
          rotate_left; (intro w' hs; obtain ⟨s0, s1, s2, s3⟩ := hs; go_simp; with_reducible rfl)
          rotate_left; (simp only [Act.put, List.setIfInBounds_toArray, List.set_cons_zero, List.set_cons_succ, i64_w, i32_w]; rfl)
          refine take_ (i := 9) (N := (some 43)) (v := ?_) (a' := ?_) #[true, true, true, true, true, false, false, false, true, true, true, false, false, false, false, false, false, false, false, false] rfl rfl (take_ofW HT_.out HW_.out (by kernel_rfl)) (fun _ _ _ h => h) (Or.inl ⟨by rfl, ?_⟩) hHeld ?_ ?_
          rotate_left; (intro w' hs; obtain ⟨s0, s1, s2, s3⟩ := hs; go_simp; with_reducible rfl)
          rotate_left; (simp only [Act.put, List.setIfInBounds_toArray, List.set_cons_zero, List.set_cons_succ, i64_w, i32_w]; rfl)
          refine pure_ (i := 5) (N := (some 39)) (v := ?_) (a' := ?_) #[true, true, true, true, true, true, false, false, true, true, true, false, false, false, false, false, false, false, false, false] rfl rfl (any_of HT_.out (by kernel_rfl)) (fun _ _ _ h => h) (Or.inl ⟨by rfl, ?_⟩) ?_ ?_
          rotate_left; (intro w'; go_simp; with_reducible rfl)
          rotate_left; (simp only [Act.put, List.setIfInBounds_toArray, List.set_cons_zero, List.set_cons_succ, i64_w, i32_w]; rfl)
          refine pure_ (i := 6) (N := (some 40)) (v := ?_) (a' := ?_) #[true, true, true, true, true, true, true, false, true, true, true, false, false, false, false, false, false, false, false, false] rfl rfl (any_of HT_.out (by kernel_rfl)) (fun _ _ _ h => h) (Or.inl ⟨by rfl, ?_⟩) ?_ ?_
          rotate_left; (intro w'; go_simp; with_reducible rfl)
          rotate_left; (simp only [Act.put, List.setIfInBounds_toArray, List.set_cons_zero, List.set_cons_succ, i64_w, i32_w]; rfl)
          refine pure_ (i := 11) (N := (some 45)) (v := ?_) (a' := ?_) #[true, true, true, true, true, true, true, false, true, true, true, true, false, false, false, false, false, false, false, false] rfl rfl (any_of HT_.out (by kernel_rfl)) (fun _ _ _ h => h) (Or.inl ⟨by rfl, ?_⟩) ?_ ?_
          rotate_left; (intro w'; go_simp; with_reducible rfl)
          rotate_left; (simp only [Act.put, List.setIfInBounds_toArray, List.set_cons_zero, List.set_cons_succ, i64_w, i32_w]; rfl)
          refine pure_ (i := 12) (N := (some 46)) (v := ?_) (a' := ?_) #[true, true, true, true, true, true, true, false, true, true, true, true, true, false, false, false, false, false, false, false] rfl rfl (any_of HT_.out (by kernel_rfl)) (fun _ _ _ h => h) (Or.inl ⟨by rfl, ?_⟩) ?_ ?_
          rotate_left; (intro w'; go_simp; with_reducible rfl)
          rotate_left; (simp only [Act.put, List.setIfInBounds_toArray, List.set_cons_zero, List.set_cons_succ, i64_w, i32_w]; rfl)
          refine take_ (i := 7) (N := (some 41)) (v := ?_) (a' := ?_) #[true, true, true, true, true, true, true, true, true, true, true, true, true, false, false, false, false, false, false, false] rfl rfl (take_ofW HT_.out HW_.out (by kernel_rfl)) (fun _ _ _ h => h) (Or.inl ⟨by rfl, ?_⟩) hHeld ?_ ?_
          rotate_left; (intro w' hs; obtain ⟨s0, s1, s2, s3⟩ := hs; go_simp; with_reducible rfl)
          rotate_left; (simp only [Act.put, List.setIfInBounds_toArray, List.set_cons_zero, List.set_cons_succ, i64_w, i32_w]; rfl)
          refine take_ (i := 13) (N := (some 47)) (v := ?_) (a' := ?_) #[true, true, true, true, true, true, true, true, true, true, true, true, true, true, false, false, false, false, false, false] rfl rfl (take_ofW HT_.out HW_.out (by kernel_rfl)) (fun _ _ _ h => h) (Or.inl ⟨by rfl, ?_⟩) hHeld ?_ ?_
          rotate_left; (intro w' hs; obtain ⟨s0, s1, s2, s3⟩ := hs; go_simp; with_reducible rfl)
          rotate_left; (simp only [Act.put, List.setIfInBounds_toArray, List.set_cons_zero, List.set_cons_succ, i64_w, i32_w]; rfl)
          refine one_ (i := 14) (N := (some 48)) #[true, true, true, true, true, true, true, true, true, true, true, true, true, true, true, false, false, false, false, false] rfl rfl (one_of HT_.out (by kernel_rfl)) (by decide) (fun K hK => ?_)
          refine goes_ Try.func83 (by kernel_rfl) rfl #[.slice Y ys.length yc] (by rfl) rfl rfl (by (try simp only [List.map_toArray, List.map_cons, List.map_nil]); first | done | rfl) ?_
          refine (terms_calls 40 (by omega) ys (by have := HLY.out.1; omega) HLY.out.2 wd Y yc HY_.out HYC.out).mono ?_
          rintro e w2 ⟨vY, rfl, hRY, hb⟩
          refine ⟨_, rfl, ?_⟩
          obtain ⟨AY, cY, rfl⟩ := Kd.R_slice hRY
          have HRY := Aside0.mk (Kd.R_lower hRY HB_.out.size)
          have N3 := Aside0.mk ((hb.block g3 (blk_lt H3_.out)).trans H3_.out)
          have N0 := Aside0.mk ((hb.block g (blk_lt H0_.out)).trans H0_.out)
          have N2 := Aside0.mk ((hb.block g2 (blk_lt H2_.out)).trans H2_.out)
          have NB := Aside0.mk (below_step HB_.out hb)
          have NRG := Aside0.mk (HRG_.out.below hb)
          have NV := Aside0.mk (Kd.R_below HV_.out hb)
          have c96 := HT.out.c96
          have HC96 := Aside0.mk c96
          clear c96 H3_ H0_ H2_ HB_ HRG_ HV_ HY_ hRY hHeld
          have s0 := (blk_cell N3.out 96).trans HC96.out
          have s1 := (blk_cell N0.out 96).trans HCF.out
          rw [HNN.out] at s1
          have s2 := pw_cell_below NB.out T0.out
          have s3 := pw_cell_below NB.out T1.out
          refine hK.out _ _ ⟨s0, s1, s2, s3⟩ (fun hHeld => ?_)
          clear hK K hb
          refine norm_ (a' := ?_) ?_ ?_
          rotate_left
          · show Act.put _ (some 48) _ = _
            simp only [Act.put, List.setIfInBounds_toArray, List.set_cons_zero, List.set_cons_succ, i64_w, i32_w]
            rfl
          refine pure_ (i := 15) (N := (some 49)) (v := ?_) (a' := ?_) #[true, true, true, true, true, true, true, true, true, true, true, true, true, true, true, true, false, false, false, false] rfl rfl (any_of HT_.out (by kernel_rfl)) (fun _ _ _ h => h) (Or.inl ⟨by rfl, ?_⟩) ?_ ?_
          rotate_left; (intro w'; go_simp; with_reducible rfl)
          rotate_left; (simp only [Act.put, List.setIfInBounds_toArray, List.set_cons_zero, List.set_cons_succ, i64_w, i32_w]; rfl)
          refine one_ (i := 16) (N := (some 50)) #[true, true, true, true, true, true, true, true, true, true, true, true, true, true, true, true, true, false, false, false] rfl rfl (one_of HT_.out (by kernel_rfl)) (by decide) (fun K hK => ?_)
          refine value_ (w1 := ?_) (v := ?_) (by rfl) rfl ?_ ?_
          rotate_left 2
          · go_simp
            constructor
            · rfl
            · rfl
          refine hK.out _ _ ⟨(World.cell?_alloc_lt _ _ _ (World.block_lt_of_cell? _ _ s0)).trans s0, (World.cell?_alloc_lt _ _ _ (World.block_lt_of_cell? _ _ s1)).trans s1, (World.cell?_alloc_lt _ _ _ (World.block_lt_of_cell? _ _ s2)).trans s2, (World.cell?_alloc_lt _ _ _ (World.block_lt_of_cell? _ _ s3)).trans s3⟩ (fun hHeld => ?_)
          clear hK K
          refine norm_ (a' := ?_) ?_ ?_
          rotate_left
          · show Act.put _ (some 50) _ = _
            simp only [Act.put, List.setIfInBounds_toArray, List.set_cons_zero, List.set_cons_succ, i64_w, i32_w]
            rfl
          refine one_ (i := 17) (N := (some 51)) #[true, true, true, true, true, true, true, true, true, true, true, true, true, true, true, true, true, true, false, false] rfl rfl (one_of HT_.out (by kernel_rfl)) (by decide) (fun K hK => ?_)
          refine Kd.R_append_step kFr (w0 := w) w.heap.size (by rfl) (.tmp 35) (.tmp 50) 68 73 (.agg #[.int .i64 0, .slice none 0 0]) 32 rfl Try.underlying68 infoFr rfl (by decide) (by omega) v fs0 (back, ys) [.int .i64 back, .slice AY ys.length cY] (fun _ => True) (fun k => some k ≠ v.ownBlock) rfl rfl ?aP (fun _ hk => ⟨trivial, hk⟩) (fun _ _ => trivial) NV.out NB.out NB.out.size ?aL ?_
          (case aP => exact ⟨[.int .i64 back], [.slice AY ys.length cY], rfl, rfl, ⟨_, rfl, Kd.R_mono (Kd.R_apart' HRY.out (Kd.R_typed NV.out) (show ∀ q, q ∈ [45, 45, 123] → q ≠ 73 by decide)) (fun k hk => hk.2)⟩⟩)
          (case aL => have := HTK.out; omega)
          intro v1 w3 ho hb hg hat
          have hty := Kd.R_typed NV.out
          have hmg := Mods.of_grown hg
          have M3 := Aside0.mk (hmg.blk N3.out (fun e => by obtain ⟨cells, hc⟩ := hty _ e.symm; have h9 := N3.out; rw [hc] at h9; injection h9 with h9; injection h9 with _ h9 _; exact absurd h9 (by decide)))
          have M0 := Aside0.mk (hmg.blk N0.out (fun e => by obtain ⟨cells, hc⟩ := hty _ e.symm; have h9 := N0.out; rw [hc] at h9; injection h9 with h9; injection h9 with _ h9 _; exact absurd h9 (by decide)))
          have M2 := Aside0.mk (hmg.blk N2.out (fun e => by obtain ⟨cells, hc⟩ := hty _ e.symm; have h9 := N2.out; rw [hc] at h9; injection h9 with h9; injection h9 with _ h9 _; exact absurd h9 (by decide)))
          have MRG := Aside0.mk (NRG.out.grown hty hg)
          have MB := Aside0.mk hb
          have MV := Aside0.mk ho
          clear hty hmg hg hat ho hb N3 N0 N2 NRG NB NV s0 s1 s2 s3 hHeld HRY
          have s0 := (blk_cell M3.out 96).trans HC96.out
          have s1 := (blk_cell M0.out 96).trans HCF.out
          rw [HNN.out] at s1
          have s2 := pw_cell_below MB.out T0.out
          have s3 := pw_cell_below MB.out T1.out
          refine hK.out _ _ ⟨s0, s1, s2, s3⟩ (fun hHeld => ?_)
          clear hK K
          refine norm_ (a' := ?_) ?_ ?_
          rotate_left
          · show Act.put _ (some 51) _ = _
            simp only [Act.put, List.setIfInBounds_toArray, List.set_cons_zero, List.set_cons_succ, i64_w, i32_w]
            rfl
          refine pure_ (i := 18) (N := (some 52)) (v := ?_) (a' := ?_) #[true, true, true, true, true, true, true, true, true, true, true, true, true, true, true, true, true, true, true, false] rfl rfl (any_of HT_.out (by kernel_rfl)) (fun _ _ _ h => h) (Or.inl ⟨by rfl, ?_⟩) ?_ ?_
          rotate_left; (intro w'; go_simp; with_reducible rfl)
          rotate_left; (simp only [Act.put, List.setIfInBounds_toArray, List.set_cons_zero, List.set_cons_succ, i64_w, i32_w]; rfl)
          refine last_ (i := 19) (N := none) #[true, true, true, true, true, true, true, true, true, true, true, true, true, true, true, true, true, true, true, true] rfl rfl (one_of HT_.out (by kernel_rfl)) (by decide) (fun K hK => ?_)
          obtain ⟨Av, cv, hv1⟩ := Kd.R_slice MV.out
          subst hv1
          have mv2 := MV.out
          rw [show (fs0 ++ [(back, ys)]).length = fs0.length + 1 by simp] at mv2
          have MV2 := Aside0.mk mv2
          clear mv2
          have hfs := blk_frozen M3.out 96
          refine skip_ (w1 := ?_) (by rfl) rfl ?_ ?_
          rotate_left
          · go_simp
            rfl
          refine hK.out _ _ ?_
          clear hK K
          refine done_ (done_of HT_.out (by kernel_rfl)) ?_
          go_wp2_with fail
          go_roundg (n + 1 - (i + 1))
          case measure => omega
          case rel => exact ⟨i + 1, _, _, by go_num, by omega, rfl, ⟨blk_set M3.out 96 _⟩, ⟨HT.out.set96 _⟩, ⟨(MRG.out.set_ M3.out set96_mods).at96 _⟩, ⟨HONE.out.set96 rfl⟩, ⟨below_set MB.out (by have := HGG.out; omega)⟩, ⟨set96_mods.blk M0.out (by have := HGG.out; omega)⟩, ⟨set96_mods.blk M2.out (by have := HGG.out; omega)⟩, ⟨by rw [← HPE.out]; exact R_set MV2.out M3.out set96_mods⟩⟩
        · have hie : i = n := by omega
          subst hie
          have b1 : ¬ (i : Int) < (i : Int) := by omega
          have HS0 := Aside0.mk (show (Try.prog.info? 70).map (·.size) = some C.size by rw [HT.out.size]; kernel_rfl)
          have HZ0 := Aside0.mk (show Z.size = C.size from hz.trans HT.out.size.symm)
          have HAL := Aside0.mk HONE.out.all
          obtain ⟨W3, hW3⟩ : ∃ W3, wr.setRow g2 C = W3 := ⟨_, rfl⟩
          have e2 : W3.heap[g2]? = some (.cells C 70 (0, 0)) := by rw [← hW3]; exact setRow_heap wr g2 _ _ _ _ H2.out
          have hb3 : Below w.heap.size w W3 := by rw [← hW3]; exact below_setRow HB.out (by have := HGG.out; omega) _
          have hm3 : Mods (fun k => k = g2) wr W3 := by rw [← hW3]; exact setRow_mods wr g2 C
          have HE2 := Aside0.mk e2
          have HB3 := Aside0.mk hb3
          have HRG3 := Aside0.mk (HRG.out.set_ H2.out hm3)
          have HV3 := Aside0.mk (R_set HV.out H2.out hm3)
          clear e2 hb3 hm3
          go_wp2_with (first
            | ((with_reducible refine wpList_load_row (o := ⟨some 53, _, _, _, _, _⟩) rfl 70 (.tmp 3) rfl g3 ?_ 70 C (0, 0) _ H3.out hu70 rfl HS0.out ?_); rfl)
            | ((with_reducible refine wpList_store_row (o := ⟨none, _, _, _, _, _⟩) rfl 70 (.tmp 2) (.tmp 53) rfl g2 C ?_ ?_ 70 Z H2.out HS0.out HZ0.out HAL.out ?_); rfl; rfl))
        
          refine bodyPost_ret (results_cell_row rfl _ _ g2 70 C (0, 0) _ rfl HE2.out Try.underlying70 rfl HS0.out) rfl ?_
          refine ⟨C, rfl, ?_, HB3.out⟩
          rw [show r.fs.take i = r.fs by rw [← HNN.out]; exact List.take_length] at HV3
          exact stay_of HT.out HRd.out.2.1 HRG3.out HV3.out
      -- the second loop done
end Go.Proofs.YthdmacdeefohkaaOf
namespace Go.Proofs.YthdmacdeefohkaaEq
open Go.RowKit Go.Proofs.YthdmacdeefohkaaW.PrintWords Go.Proofs.YthdmacdeefohkaaW.PrintLast Go.Proofs.YthdmacdeefohkaaW.PrintMore Go.Proofs.YthdmacdeefohkaaMem Go.Proofs.YthdmacdeefohkaaLeaf Go.Proofs.YthdmacdeefohkaaBits Go.Proofs.Ythdmacdeefohkaa.PMa Go.Proofs.YthdmacdeefohkaaMTerm Go.Proofs.YthdmacdeefohkaaMVal Go.Proofs.YthdmacdeefohkaaTc Go.Proofs.YthdmacdeefohkaaRv Go.Proofs.YthdmacdeefohkaaTs Go.Proofs
set_option linter.unusedVariables false
set_option linter.unusedSimpArgs false
/-- term.Same says of a term, wherever it lies twice, that it is the same. -/
def Refl (x : S45) : Prop := ∀ (W : World) (A2 : Option Addr) (c2 : Nat) (A5 : Option Addr) (c5 : Nat) (B2 : Option Addr) (d2 : Nat) (B5 : Option Addr) (d5 : Nat), Lies W x A2 c2 A5 c5 → Lies W x B2 d2 B5 d5 →
  Calls Try.prog 104 #[.agg (cellsT x A2 c2 A5 c5), .agg (cellsT x B2 d2 B5 d5)] W fun e w' => e = .returned (.bool true) ∧ Below W.heap.size W w'
set_option maxHeartbeats 4000000 in
set_option maxRecDepth 100000 in
theorem eqT_calls (w : World) (A A' : Option Addr) (c c' : Nat) (xs : List S45) (hA : Kd.C k45 w A xs.length xs) (hA' : Kd.C k45 w A' xs.length xs) (hx : ∀ i, i < xs.length → Refl (xs.getD i z45)) :
    Calls Try.prog 103 #[.slice A xs.length c, .slice A' xs.length c', .func (.func 104) #[] #[]] w fun e w' => e = .returned (.bool true) ∧ Below w.heap.size w w' := by
  have hu45 := Try.underlying45
  have hm := Kd.C_max hA
  obtain ⟨n, hn⟩ : ∃ n, xs.length = n := ⟨_, rfl⟩
  rw [hn] at hA hA' hm ⊢
  have HN := Aside0.mk hn
  have HA := Aside0.mk hA
  have HA' := Aside0.mk hA'
  have HX := Aside0.mk hx
  clear hA hA' hx hn
  go_enter Try.func103, Try.ntmps103
  go_wp2_with fail
  go_loopg [17] (n + 1) (fun k v17 wr => ∃ i : Nat, v17 = .int .i64 i ∧ i ≤ n ∧ k = n + 1 - i ∧ Aside0 (Below w.heap.size w wr))
  case atStart => exact ⟨0, rfl, by omega, by omega, ⟨Below.refl _ _⟩⟩
  case round =>
    obtain ⟨i, rfl, hi, rfl, HB⟩ := hrel
    by_cases hlt : i < n
    · have b1 : (i : Int) < (n : Int) := by omega
      obtain ⟨ad, A2, c2, A5, c5, rfl, hl, t0, t1, t2, t3, t4, t5⟩ := tm_at HA.out i hlt
      obtain ⟨ad', B2, d2, B5, d5, rfl, hl', u0, u1, u2, u3, u4, u5⟩ := tm_at HA'.out i hlt
      have k0 := pw_cell_below HB.out t0
      have k1 := pw_cell_below HB.out t1
      have k2 := pw_cell_below HB.out t2
      have k3 := pw_cell_below HB.out t3
      have k4 := pw_cell_below HB.out t4
      have k5 := pw_cell_below HB.out t5
      obtain ⟨W1, hW1⟩ : ∃ W1, wr.alloc (.cells (cellsT (xs.getD i z45) A2 c2 A5 c5) 45) = W1 := ⟨_, rfl⟩
      obtain ⟨W2, hW2⟩ : ∃ W2, W1.alloc (.cells (cellsT (xs.getD i z45) B2 d2 B5 d5) 45) = W2 := ⟨_, rfl⟩
      have hb1 : Below wr.heap.size wr W1 := by rw [← hW1]; exact below_alloc (Below.refl _ _) _
      have hb2 : Below wr.heap.size wr W2 := by rw [← hW2, ← hW1]; exact below_alloc (below_alloc (Below.refl _ _) _) _
      have b1' := blk_new1 wr (.cells (cellsT (xs.getD i z45) A2 c2 A5 c5) 45) (.cells (cellsT (xs.getD i z45) B2 d2 B5 d5) 45)
      have b2' := blk_new2 wr (.cells (cellsT (xs.getD i z45) A2 c2 A5 c5) 45) (.cells (cellsT (xs.getD i z45) B2 d2 B5 d5) 45)
      rw [hW1, hW2] at b1' b2'
      obtain ⟨p0, p1, p2, p3, p4, p5⟩ := six_cells b1'
      obtain ⟨r0, r1, r2, r3, r4, r5⟩ := six_cells b2'
      have l0 := pw_cell_below hb1 (pw_cell_below HB.out u0)
      have l1 := pw_cell_below hb1 (pw_cell_below HB.out u1)
      have l2 := pw_cell_below hb1 (pw_cell_below HB.out u2)
      have l3 := pw_cell_below hb1 (pw_cell_below HB.out u3)
      have l4 := pw_cell_below hb1 (pw_cell_below HB.out u4)
      have l5 := pw_cell_below hb1 (pw_cell_below HB.out u5)
      have hsz : W1.heap.size = wr.heap.size + 1 := by rw [← hW1]; simp
      have HC := Aside0.mk (HX.out i (by rw [HN.out]; exact hlt) W2 A2 c2 A5 c5 B2 d2 B5 d5 ((hl.below HB.out).below hb2) ((hl'.below HB.out).below hb2))
      have HB2 := Aside0.mk (below_step HB.out hb2)
      unfold cellsT at HC hW2 hW1
      generalize xs.getD i z45 = x at HC k0 k1 k2 k3 k4 k5 l0 l1 l2 l3 l4 l5 hW2 hW1 p0 p1 p2 p3 p4 p5 r0 r1 r2 r3 r4 r5
      clear b1' b2' hb1 hl hl' t0 t1 t2 t3 t4 t5 u0 u1 u2 u3 u4 u5 hb2
      go_wp2_with fail
      refine HC.out.mono ?_
      rintro e w3 ⟨rfl, hb3⟩
      have HB3 := Aside0.mk (below_step HB2.out hb3)
      clear hb3 HC k0 k1 k2 k3 k4 k5 l0 l1 l2 l3 l4 l5 hW2 hW1 hsz p0 p1 p2 p3 p4 p5 r0 r1 r2 r3 r4 r5
      go_wp2_with fail
      go_roundg (n + 1 - (i + 1))
      case measure => omega
      case rel => exact ⟨i + 1, by go_num, by omega, rfl, HB3⟩
    · have hie : i = n := by omega
      subst hie
      have b1 : ¬ (i : Int) < (i : Int) := by omega
      go_wp2_with fail
      go_ret
      exact ⟨by first | rfl | (simp; done), HB.out⟩
set_option maxHeartbeats 4000000 in
set_option maxRecDepth 100000 in
theorem all_calls (w : World) (A A' : Option Addr) (c c' : Nat) (xs : List S45) (hA : Kd.C k45 w A xs.length xs) (hA' : Kd.C k45 w A' xs.length xs) (hx : ∀ i, i < xs.length → Refl (xs.getD i z45)) :
    Calls Try.prog 120 #[.slice A xs.length c, .slice A' xs.length c'] w fun e w' => e = .returned (.bool true) ∧ Below w.heap.size w w' := by
  have HC := Aside0.mk (eqT_calls w A A' c c' xs hA hA' hx)
  clear hA hA' hx
  go_enter Try.func120, Try.ntmps120
  go_wp2_with fail
  refine HC.out.mono ?_
  rintro e w2 ⟨rfl, hb⟩
  have HB := Aside0.mk hb
  clear hb
  go_wp2_with fail
  go_ret
  exact ⟨by first | rfl | (simp; done), HB.out⟩
theorem limbs_refl (L : List Int) (hl : L.length ≤ 1000) : ∃ k, slices_Equal_uint32_uint32.f k L L = some true := by
  have loop : ∀ (d i : Nat), i + d = L.length → slices_Equal_uint32_uint32.l0 (d + 1) L L (L.length : Int) (i : Int) = some true := by
    intro d
    induction d with
    | zero => intro i hi; simp only [slices_Equal_uint32_uint32.l0]; rw [if_neg (by omega)]
    | succ d ih =>
      intro i hi
      have hw : wrap64 ((i : Int) + 1) = ((i + 1 : Nat) : Int) := by unfold wrap64; omega
      have := ih (i + 1) (by omega)
      rw [slices_Equal_uint32_uint32.l0, if_pos (by omega), if_pos (by omega), if_pos (by omega), if_pos (by omega), if_pos rfl, hw]
      exact this
  exact ⟨L.length + 1, by unfold slices_Equal_uint32_uint32.f; rw [if_pos rfl]; exact loop L.length 0 (by omega)⟩
set_option maxHeartbeats 8000000 in
set_option maxRecDepth 100000 in
theorem refl_step (x : S45) (hl40 : x.f1.f1.length ≤ 40) (hx : ∀ i, i < x.f4.length → Refl (x.f4.getD i z45)) : Refl x := by
  intro w A2 c2 A5 c5 B2 d2 B5 d5 hl hl'
  have hu45 := Try.underlying45
  obtain ⟨W1, hW1⟩ : ∃ W1, w.alloc (.cells (cellsT x A2 c2 A5 c5) 45) = W1 := ⟨_, rfl⟩
  obtain ⟨W2, hW2⟩ : ∃ W2, W1.alloc (.cells (cellsT x B2 d2 B5 d5) 45) = W2 := ⟨_, rfl⟩
  have hb2 : Below w.heap.size w W2 := by rw [← hW2, ← hW1]; exact below_alloc (below_alloc (Below.refl _ _) _) _
  have b1' := blk_new1 w (.cells (cellsT x A2 c2 A5 c5) 45) (.cells (cellsT x B2 d2 B5 d5) 45)
  have b2' := blk_new2 w (.cells (cellsT x A2 c2 A5 c5) 45) (.cells (cellsT x B2 d2 B5 d5) 45)
  rw [hW1, hW2] at b1' b2'
  obtain ⟨p0, p1, p2, p3, p4, p5⟩ := six_cells b1'
  obtain ⟨r0, r1, r2, r3, r4, r5⟩ := six_cells b2'
  have hsz : W1.heap.size = w.heap.size + 1 := by rw [← hW1]; simp
  have HALL := Aside0.mk (all_calls W2 A5 B5 c5 d5 x.f4 (hl.below hb2).2.2.1 (hl'.below hb2).2.2.1 hx)
  have HB := Aside0.mk hb2
  have hlb := hl.below hb2
  have hlb' := hl'.below hb2
  unfold cellsT at hW1 hW2 ⊢
  clear hl hl' b1' b2' hb2 hx
  obtain ⟨kq, hq⟩ := limbs_refl x.f1.f1 (by omega)
  have HEQ := Aside0.mk (slices_Equal_uint32_uint32.calls kq A2 c2 x.f1.f1 B2 d2 x.f1.f1 true W2 hlb.1 hlb.2.1 hlb'.1 hlb'.2.1 hq)
  clear hlb hlb' hq
  obtain ⟨kd, hkd⟩ : ∃ kd, x.f0 = kd := ⟨_, rfl⟩
  rw [hkd] at p0 r0 hW1 hW2 ⊢
  have hc : kd = 1 ∨ kd = 2 ∨ kd = 4 ∨ kd = 5 ∨ kd = 6 ∨ kd = 7 ∨ kd = 8 ∨ kd = 9 ∨ (kd ≠ 1 ∧ kd ≠ 2 ∧ kd ≠ 4 ∧ kd ≠ 5 ∧ kd ≠ 6 ∧ kd ≠ 7 ∧ kd ≠ 8 ∧ kd ≠ 9) := by omega
  clear hkd
  rcases hc with rfl | rfl | rfl | rfl | rfl | rfl | rfl | rfl | ⟨n1, n2, n4, n5, n6, n7, n8, n9⟩
  all_goals (go_enter Try.func104, Try.ntmps104)
  · go_wp2_with fail
    refine HEQ.out.mono ?_
    rintro e w3 ⟨rfl, hd⟩
    obtain ⟨nd, rfl⟩ := hd.out
    go_wp2_with fail
    go_ret
    exact ⟨by first | rfl | (simp; done), pw_below_drewN HB.out nd⟩
  · go_wp2_with fail
    go_ret
    exact ⟨by first | rfl | (simp; done), HB.out⟩
  · go_wp2_with fail
    refine HALL.out.mono ?_
    rintro e w3 ⟨rfl, hb⟩
    have HB3 := Aside0.mk (below_step HB.out hb)
    clear hb
    go_wp2_with fail
    go_ret
    exact ⟨by first | rfl | (simp; done), HB3.out⟩
  · go_wp2_with fail
    refine HALL.out.mono ?_
    rintro e w3 ⟨rfl, hb⟩
    have HB3 := Aside0.mk (below_step HB.out hb)
    clear hb
    go_wp2_with fail
    go_ret
    exact ⟨by first | rfl | (simp; done), HB3.out⟩
  · go_wp2_with fail
    go_ret
    exact ⟨by first | rfl | (simp; done), HB.out⟩
  · go_wp2_with fail
    refine HALL.out.mono ?_
    rintro e w3 ⟨rfl, hb⟩
    have HB3 := Aside0.mk (below_step HB.out hb)
    clear hb
    go_wp2_with fail
    go_ret
    exact ⟨by first | rfl | (simp; done), HB3.out⟩
  · go_wp2_with fail
    go_ret
    exact ⟨by first | rfl | (simp; done), HB.out⟩
  · go_wp2_with fail
    go_ret
    exact ⟨by first | rfl | (simp; done), HB.out⟩
  · have m1 : (kd == 1) = false := beq_eq_false_iff_ne.mpr n1
    have m2 : (kd == 2) = false := beq_eq_false_iff_ne.mpr n2
    have m4 : (kd == 4) = false := beq_eq_false_iff_ne.mpr n4
    have m5 : (kd == 5) = false := beq_eq_false_iff_ne.mpr n5
    have m6 : (kd == 6) = false := beq_eq_false_iff_ne.mpr n6
    have m7 : (kd == 7) = false := beq_eq_false_iff_ne.mpr n7
    have m8 : (kd == 8) = false := beq_eq_false_iff_ne.mpr n8
    have m9 : (kd == 9) = false := beq_eq_false_iff_ne.mpr n9
    go_wp2_with fail
    go_ret
    exact ⟨by first | rfl | (simp; done), HB.out⟩
/-- A light term is the same as itself. -/
theorem refl_of : ∀ (m : Nat) (x : S45), Lt m x → Refl x := by
  intro m
  induction m with
  | zero => intro x h; exact h.elim
  | succ m ih =>
    intro x h
    obtain ⟨h1, h2, h3, h4⟩ := h
    refine refl_step x h1 (fun i hi => ih _ (h4 _ ?_))
    rw [List.getD_eq_getElem?_getD, List.getElem?_eq_getElem hi]
    exact List.getElem_mem hi
end Go.Proofs.YthdmacdeefohkaaEq
namespace Go.Proofs.YthdmacdeefohkaaEf
open Go.RowKit Go.Proofs.YthdmacdeefohkaaW.PrintWords Go.Proofs.YthdmacdeefohkaaW.PrintLast Go.Proofs.YthdmacdeefohkaaW.PrintMore Go.Proofs.YthdmacdeefohkaaMem Go.Proofs.YthdmacdeefohkaaLeaf Go.Proofs.YthdmacdeefohkaaBits Go.Proofs.Ythdmacdeefohkaa.PMa Go.Proofs.YthdmacdeefohkaaMTerm Go.Proofs.YthdmacdeefohkaaMVal Go.Proofs.YthdmacdeefohkaaTc Go.Proofs.YthdmacdeefohkaaRv Go.Proofs.YthdmacdeefohkaaTs Go.Proofs.YthdmacdeefohkaaEq Go.Proofs
set_option linter.unusedVariables false
set_option linter.unusedSimpArgs false
set_option maxHeartbeats 4000000 in
set_option maxRecDepth 100000 in
theorem frame_calls (w : World) (b : Int) (ys : List S45) (Y Y' : Option Addr) (c c' : Nat) (hY : Kd.C k45 w Y ys.length ys) (hY' : Kd.C k45 w Y' ys.length ys) (hx : ∀ i, i < ys.length → Refl (ys.getD i z45)) :
    Calls Try.prog 106 #[.agg #[.int .i64 b, .slice Y ys.length c], .agg #[.int .i64 b, .slice Y' ys.length c']] w fun e w' => e = .returned (.bool true) ∧ Below w.heap.size w w' := by
  have hu73 := Try.underlying73
  obtain ⟨W2, hW2⟩ : ∃ W2, (w.alloc (.cells #[.int .i64 b, .slice Y ys.length c] 73)).alloc (.cells #[.int .i64 b, .slice Y' ys.length c'] 73) = W2 := ⟨_, rfl⟩
  have hb2 : Below w.heap.size w W2 := by rw [← hW2]; exact below_alloc (below_alloc (Below.refl _ _) _) _
  have HC := Aside0.mk (eqT_calls W2 Y Y' c c' ys (Kd.C_below hY hb2) (Kd.C_below hY' hb2) hx)
  have HB := Aside0.mk hb2
  have b1' := blk_new1 w (.cells #[.int .i64 b, .slice Y ys.length c] 73) (.cells #[.int .i64 b, .slice Y' ys.length c'] 73)
  have b2' := blk_new2 w (.cells #[.int .i64 b, .slice Y ys.length c] 73) (.cells #[.int .i64 b, .slice Y' ys.length c'] 73)
  rw [hW2] at b1' b2'
  have p0 : W2.cell? ⟨w.heap.size, 0, none⟩ = some (.int .i64 b) := (blk_cell b1' 0).trans rfl
  have p1 : W2.cell? ⟨w.heap.size, 1, none⟩ = some (.slice Y ys.length c) := (blk_cell b1' 1).trans rfl
  have r0 : W2.cell? ⟨w.heap.size + 1, 0, none⟩ = some (.int .i64 b) := (blk_cell b2' 0).trans rfl
  have r1 : W2.cell? ⟨w.heap.size + 1, 1, none⟩ = some (.slice Y' ys.length c') := (blk_cell b2' 1).trans rfl
  clear hY hY' hx hb2 b1' b2'
  go_enter Try.func106, Try.ntmps106
  go_wp2_with fail
  refine HC.out.mono ?_
  rintro e w3 ⟨rfl, hb⟩
  have HB3 := Aside0.mk (below_step HB.out hb)
  clear hb
  go_wp2_with fail
  go_ret
  exact ⟨by first | rfl | (simp; done), HB3.out⟩
set_option maxHeartbeats 4000000 in
set_option maxRecDepth 100000 in
theorem eqF_calls (w : World) (A A' : Option Addr) (c c' : Nat) (fs : List Frm) (hA : Kd.C kFr w A fs.length fs) (hA' : Kd.C kFr w A' fs.length fs) (hx : ∀ i, i < fs.length → ∀ j, j < (fs.getD i (0, [])).2.length → Refl ((fs.getD i (0, [])).2.getD j z45)) :
    Calls Try.prog 105 #[.slice A fs.length c, .slice A' fs.length c', .func (.func 106) #[] #[]] w fun e w' => e = .returned (.bool true) ∧ Below w.heap.size w w' := by
  have hu73 := Try.underlying73
  have hm := Kd.C_max hA
  obtain ⟨n, hn⟩ : ∃ n, fs.length = n := ⟨_, rfl⟩
  rw [hn] at hA hA' hm ⊢
  have HN := Aside0.mk hn
  have HA := Aside0.mk hA
  have HA' := Aside0.mk hA'
  have HX := Aside0.mk hx
  clear hA hA' hx hn
  go_enter Try.func105, Try.ntmps105
  go_wp2_with fail
  go_loopg [17] (n + 1) (fun k v17 wr => ∃ i : Nat, v17 = .int .i64 i ∧ i ≤ n ∧ k = n + 1 - i ∧ Aside0 (Below w.heap.size w wr))
  case atStart => exact ⟨0, rfl, by omega, by omega, ⟨Below.refl _ _⟩⟩
  case round =>
    obtain ⟨i, rfl, hi, rfl, HB⟩ := hrel
    by_cases hlt : i < n
    · have b1 : (i : Int) < (n : Int) := by omega
      obtain ⟨ad, Y, yc, rfl, t0, t1, hyc, hY⟩ := fr_at HA.out i hlt
      obtain ⟨ad', Y', yc', rfl, u0, u1, hyc', hY'⟩ := fr_at HA'.out i hlt
      have k0 := pw_cell_below HB.out t0
      have k1 := pw_cell_below HB.out t1
      have hxi := HX.out i (by rw [HN.out]; exact hlt)
      generalize (fs.getD i (0, [])).1 = b at k0 u0
      generalize (fs.getD i (0, [])).2 = ys at k1 u1 hY hY' hxi
      obtain ⟨W1, hW1⟩ : ∃ W1, wr.alloc (.cells #[.int .i64 b, .slice Y ys.length yc] 73) = W1 := ⟨_, rfl⟩
      obtain ⟨W2, hW2⟩ : ∃ W2, W1.alloc (.cells #[.int .i64 b, .slice Y' ys.length yc'] 73) = W2 := ⟨_, rfl⟩
      have hb1 : Below wr.heap.size wr W1 := by rw [← hW1]; exact below_alloc (Below.refl _ _) _
      have hb2 : Below wr.heap.size wr W2 := by rw [← hW2, ← hW1]; exact below_alloc (below_alloc (Below.refl _ _) _) _
      have b1' := blk_new1 wr (.cells #[.int .i64 b, .slice Y ys.length yc] 73) (.cells #[.int .i64 b, .slice Y' ys.length yc'] 73)
      have b2' := blk_new2 wr (.cells #[.int .i64 b, .slice Y ys.length yc] 73) (.cells #[.int .i64 b, .slice Y' ys.length yc'] 73)
      rw [hW1, hW2] at b1' b2'
      have p0 := (blk_cell b1' 0).trans rfl
      have p1 := (blk_cell b1' 1).trans rfl
      have r0 := (blk_cell b2' 0).trans rfl
      have r1 := (blk_cell b2' 1).trans rfl
      have l0 := pw_cell_below hb1 (pw_cell_below HB.out u0)
      have l1 := pw_cell_below hb1 (pw_cell_below HB.out u1)
      have hsz : W1.heap.size = wr.heap.size + 1 := by rw [← hW1]; simp
      have HC := Aside0.mk (frame_calls W2 b ys Y Y' yc yc' (Kd.C_below (Kd.C_below hY HB.out) hb2) (Kd.C_below (Kd.C_below hY' HB.out) hb2) hxi)
      have HB2 := Aside0.mk (below_step HB.out hb2)
      clear t0 t1 u0 u1 hY hY' hxi hb1 hb2 b1' b2'
      go_wp2_with fail
      refine HC.out.mono ?_
      rintro e w3 ⟨rfl, hb3⟩
      have HB3 := Aside0.mk (below_step HB2.out hb3)
      clear hb3 HC k0 k1 l0 l1 hW1 hW2 hsz p0 p1 r0 r1
      go_wp2_with fail
      go_roundg (n + 1 - (i + 1))
      case measure => omega
      case rel => exact ⟨i + 1, by go_num, by omega, rfl, HB3⟩
    · have hie : i = n := by omega
      subst hie
      have b1 : ¬ (i : Int) < (i : Int) := by omega
      go_wp2_with fail
      go_ret
      exact ⟨by first | rfl | (simp; done), HB.out⟩
end Go.Proofs.YthdmacdeefohkaaEf
namespace Go.Proofs.YthdmacdeefohkaaRs2
open Go.RowKit Go.Proofs.YthdmacdeefohkaaW.PrintWords Go.Proofs.YthdmacdeefohkaaW.PrintLast Go.Proofs.YthdmacdeefohkaaW.PrintMore Go.Proofs.YthdmacdeefohkaaMem Go.Proofs.YthdmacdeefohkaaLeaf Go.Proofs.YthdmacdeefohkaaBits Go.Proofs.Ythdmacdeefohkaa.PMa Go.Proofs.YthdmacdeefohkaaMTerm Go.Proofs.YthdmacdeefohkaaMVal Go.Proofs.YthdmacdeefohkaaTc Go.Proofs.YthdmacdeefohkaaRv Go.Proofs
set_option linter.unusedVariables false
set_option linter.unusedSimpArgs false
theorem rowX {w : World} {cs : Array Value} {r : RV} (h : Rd w cs r) {g : Nat} {t : TypeId} (hg : w.heap[g]? = some (.cells cs t (0, 0))) : Kd.C k45 w (some ⟨g, 0, none⟩) 16 r.xs := by
  refine ⟨h.2.1, by omega, fun _ => ⟨_, rfl, fun j p hp => ?_⟩⟩
  have hj : j < 16 := by have := (List.getElem?_eq_some_iff.1 hp).1; rw [h.2.1] at this; exact this
  have hx : r.xs.getD j z45 = p := by rw [List.getD_eq_getElem?_getD, hp]; rfl
  obtain ⟨A2, c2, A5, c5, q1, q2⟩ := h.2.2.1 j hj
  rw [hx] at q1 q2
  refine ⟨(cellsT p A2 c2 A5 c5).toList, rfl, k45_mk w p q1.2.1 q1.1 q1.2.2.2 q1.2.2.1, fun i u hu => ?_⟩
  have hi : i < 6 := (List.getElem?_eq_some_iff.1 hu).1
  have e := q2 i hi
  have ha : ((⟨g, 0, none⟩ : Addr).add (j * k45.sz + i)) = ⟨g, j * 6 + i, none⟩ := by rw [add_plain]; rfl
  rw [ha]
  refine (blk_cell hg _).trans (e.trans ?_)
  rw [← hu]
  simp
end Go.Proofs.YthdmacdeefohkaaRs2
namespace Go.Proofs.YthdmacdeefohkaaSm
open Go.RowKit Go.Proofs.YthdmacdeefohkaaW.PrintWords Go.Proofs.YthdmacdeefohkaaW.PrintLast Go.Proofs.YthdmacdeefohkaaW.PrintMore Go.Proofs.YthdmacdeefohkaaMem Go.Proofs.YthdmacdeefohkaaLeaf Go.Proofs.YthdmacdeefohkaaBits Go.Proofs.Ythdmacdeefohkaa.PMa Go.Proofs.YthdmacdeefohkaaMTerm Go.Proofs.YthdmacdeefohkaaMVal Go.Proofs.YthdmacdeefohkaaTc Go.Proofs.YthdmacdeefohkaaRv Go.Proofs.YthdmacdeefohkaaEq Go.Proofs.YthdmacdeefohkaaEf Go.Proofs.YthdmacdeefohkaaRs2 Go.Proofs
set_option linter.unusedVariables false
set_option linter.unusedSimpArgs false
/-- term.Same says of each term that it is the same as itself. -/
def ReflR (r : RV) : Prop := (∀ i, i < 16 → Refl (r.xs.getD i z45)) ∧ ∀ i, i < r.fs.length → ∀ j, j < (r.fs.getD i (0, [])).2.length → Refl ((r.fs.getD i (0, [])).2.getD j z45)
set_option maxHeartbeats 8000000 in
set_option maxRecDepth 100000 in
theorem same_calls (w : World) (cs cs' : Array Value) (r : RV) (h : Rd w cs r) (h' : Rd w cs' r) (hx : ReflR r) :
    Calls Try.prog 71 #[.agg cs, .agg cs'] w fun e w' => e = .returned (.bool true) ∧ Below w.heap.size w w' := by
  have hu45 := Try.underlying45
  have hu70 := Try.underlying70
  have hu67 := Try.underlying67
  obtain ⟨W, hW⟩ : ∃ W, (w.alloc (.cells cs 70)).alloc (.cells cs' 70) = W := ⟨_, rfl⟩
  have hb : Below w.heap.size w W := by rw [← hW]; exact below_alloc (below_alloc (Below.refl _ _) _) _
  have b1 := blk_new1 w (.cells cs 70) (.cells cs' 70)
  have b2 := blk_new2 w (.cells cs 70) (.cells cs' 70)
  rw [hW] at b1 b2
  obtain ⟨g, hg⟩ : ∃ g, w.heap.size = g := ⟨_, rfl⟩
  obtain ⟨g', hg'⟩ : ∃ g', g + 1 = g' := ⟨_, rfl⟩
  have hB := Aside0.mk hb
  have R1 := h.below hb
  have R2 := h'.below hb
  obtain ⟨F, fc, q96, _, hF⟩ := R1.2.2.2.1
  obtain ⟨F', fc', q96', _, hF'⟩ := R2.2.2.2.1
  obtain ⟨q97, q98, q99, q100⟩ := R1.2.2.2.2
  obtain ⟨q97', q98', q99', q100'⟩ := R2.2.2.2.2
  rw [hg] at b1 b2
  rw [hg'] at b2
  have HX := Aside0.mk (rowX R1 b1)
  have HX' := Aside0.mk (rowX R2 b2)
  have HF := Aside0.mk hF
  have HF' := Aside0.mk hF'
  have HRX := Aside0.mk hx
  have HL := Aside0.mk R1.2.1
  have k6 := (blk_cell b1 96).trans q96
  have k7 := (blk_cell b1 97).trans q97
  have k8 := (blk_cell b1 98).trans q98
  have k9 := (blk_cell b1 99).trans q99
  have kA := (blk_cell b1 100).trans q100
  have l6 := (blk_cell b2 96).trans q96'
  have l7 := (blk_cell b2 97).trans q97'
  have l8 := (blk_cell b2 98).trans q98'
  have l9 := (blk_cell b2 99).trans q99'
  have lA := (blk_cell b2 100).trans q100'
  clear h h' hx R1 R2 b1 b2 hb hF hF' q96 q97 q98 q99 q100 q96' q97' q98' q99' q100'
  go_enter Try.func71, Try.ntmps71
  go_wp2_with fail
  go_region_held3 (fun w' => w'.cell? ⟨g, 96, none⟩ = some (.slice F r.fs.length fc) ∧ w'.cell? ⟨g, 97, none⟩ = some (.bool r.fr) ∧ w'.cell? ⟨g, 98, none⟩ = some (.int .i64 r.back) ∧ w'.cell? ⟨g, 99, none⟩ = some (.int .i64 r.pc) ∧ w'.cell? ⟨g, 100, none⟩ = some (.int .i64 r.room) ∧ w'.cell? ⟨g', 96, none⟩ = some (.slice F' r.fs.length fc') ∧ w'.cell? ⟨g', 97, none⟩ = some (.bool r.fr) ∧ w'.cell? ⟨g', 98, none⟩ = some (.int .i64 r.back) ∧ w'.cell? ⟨g', 99, none⟩ = some (.int .i64 r.pc) ∧ w'.cell? ⟨g', 100, none⟩ = some (.int .i64 r.room))
    (first | go_keep | assumption | exact ⟨k6, k7, k8, k9, kA, l6, l7, l8, l9, lA⟩ | exact ⟨mk6, mk7, mk8, mk9, mkA, ml6, ml7, ml8, ml9, mlA⟩ | (refine ⟨?_, ?_, ?_, ?_, ?_, ?_, ?_, ?_, ?_, ?_⟩ <;> assumption))
    ((first
      | (go_at_call 103; have HC := eqT_calls W.drew (some ⟨g, 0, none⟩) (some ⟨g', 0, none⟩) 16 16 r.xs (by rw [HL.out]; exact Kd.C_below HX.out (below_drew (Below.refl _ _))) (by rw [HL.out]; exact Kd.C_below HX'.out (below_drew (Below.refl _ _))) (by rw [HL.out]; exact HRX.out.1); rw [HL.out] at HC; refine HC.mono ?_; rintro e w3 ⟨rfl, hb⟩; have mk6 := pw_cell_below (w := W.drew) hb k6; have mk7 := pw_cell_below (w := W.drew) hb k7; have mk8 := pw_cell_below (w := W.drew) hb k8; have mk9 := pw_cell_below (w := W.drew) hb k9; have mkA := pw_cell_below (w := W.drew) hb kA; have ml6 := pw_cell_below (w := W.drew) hb l6; have ml7 := pw_cell_below (w := W.drew) hb l7; have ml8 := pw_cell_below (w := W.drew) hb l8; have ml9 := pw_cell_below (w := W.drew) hb l9; have mlA := pw_cell_below (w := W.drew) hb lA; have HB3 := Aside0.mk (below_then (below_drew hB.out) hB.out.size hb); have HB3' := Aside0.mk ((below_drew (Below.refl W.heap.size W)).trans hb); clear hb HC)
      | (go_at_call 105; refine (eqF_calls w3 F F' fc fc' r.fs (Kd.C_below HF.out HB3'.out) (Kd.C_below HF'.out HB3'.out) HRX.out.2).mono ?_; rintro e w4 ⟨rfl, hb⟩; have HB4 := Aside0.mk (below_then HB3.out HB3.out.size hb); have nk6 := pw_cell_below (w := w3) hb mk6; have nk7 := pw_cell_below (w := w3) hb mk7; have nk8 := pw_cell_below (w := w3) hb mk8; have nk9 := pw_cell_below (w := w3) hb mk9; have nkA := pw_cell_below (w := w3) hb mkA; have nl6 := pw_cell_below (w := w3) hb ml6; have nl7 := pw_cell_below (w := w3) hb ml7; have nl8 := pw_cell_below (w := w3) hb ml8; have nl9 := pw_cell_below (w := w3) hb ml9; have nlA := pw_cell_below (w := w3) hb mlA; clear hb)))
  go_wp2_with fail
  go_ret
  exact ⟨by first | rfl | (simp; done), HB4.out⟩
end Go.Proofs.YthdmacdeefohkaaSm
