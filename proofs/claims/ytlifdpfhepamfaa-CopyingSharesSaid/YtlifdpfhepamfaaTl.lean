/- term.List: a list of terms behind one another; over slices.Backward. -/
import Derived.RangeFuncNested
import Derived.RangeFuncBound
import Derived.RangeFuncCalls
import Derived.RangeFuncLeaves
import Derived.RangeFuncBox
import Derived.Shelf.Abstract
import Derived.WalkKit
import Derived.OwnWalkIn
import Derived.TacticsInMore
import Derived.LoopNIn
import Derived.LoopIn
import Derived.Test.YtlifdpfhepamfaaPHe0
namespace Go.Proofs.YtlifdpfhepamfaaTl
open Go.RowKit Go.Shelf Go.Proofs.YtlifdpfhepamfaaW.PrintWords Go.Proofs.YtlifdpfhepamfaaW.PrintLast Go.Proofs.YtlifdpfhepamfaaW.PrintMore Go.Proofs.Ytlifdpfhepamfaa.PHe Go.Proofs
attribute [local go_sem] Oper.semAt_some
set_option linter.unusedVariables false
set_option linter.unusedSimpArgs false
abbrev TT := S43
abbrev kT := k43
def upto {α : Type} (f : Nat → α) (k : Nat) : List α := (List.range k).map f
theorem upto_succ {α : Type} (f : Nat → α) (k : Nat) : upto f (k + 1) = upto f k ++ [f k] := by simp [upto, List.range_succ]
theorem upto_length {α : Type} (f : Nat → α) (k : Nat) : (upto f k).length = k := by simp [upto]
/-- What a round is handed: a place, a term and its cells. -/
structure El (w : World) (base : Nat) where
  i : Int
  t : TT
  v2 : Value
  v5 : Value
  one2 : v2.oneCell' = true
  one5 : v5.oneCell' = true
  e2 : ∃ A n c, v2 = .slice A n c
  e5 : ∃ A n c, v5 = .slice A n c
  m : kT.M w base (fun k => k < w.heap.size) t [.int .i64 t.f0, .bool t.f1.f0, v2, .string t.f2, .int .i64 t.f3, v5]
def El.v {w : World} {base : Nat} (x : El w base) : Value := .agg #[.int .i64 x.t.f0, .bool x.t.f1.f0, x.v2, .string x.t.f2, .int .i64 x.t.f3, x.v5]
/-- The six cells of an element of a slice. -/
def SixAt (W : World) (g j : Nat) (t : TT) (v2 v5 : Value) : Prop :=
  W.cell? ⟨g, j * 6, none⟩ = some (.int .i64 t.f0) ∧ W.cell? ⟨g, j * 6 + 1, none⟩ = some (.bool t.f1.f0) ∧ W.cell? ⟨g, j * 6 + 2, none⟩ = some v2 ∧ W.cell? ⟨g, j * 6 + 3, none⟩ = some (.string t.f2) ∧ W.cell? ⟨g, j * 6 + 4, none⟩ = some (.int .i64 t.f3) ∧ W.cell? ⟨g, j * 6 + 5, none⟩ = some v5
/-- What a round keeps: all below n₀, and the slice's box. -/
def Kp (n₀ Bs : Nat) (W W' : World) : Prop := Below n₀ W W' ∧ W'.heap[Bs]? = W.heap[Bs]?
theorem Kp.trans {n₀ Bs : Nat} {A B C : World} (h : Kp n₀ Bs A B) (h' : Kp n₀ Bs B C) : Kp n₀ Bs A C := ⟨h.1.trans h'.1, h'.2.trans h.2⟩
theorem Kp.refl (n₀ Bs : Nat) (A : World) : Kp n₀ Bs A A := ⟨Below.refl _ _, rfl⟩
theorem Kp.box {n₀ Bs : Nat} {A B : World} (h : Kp n₀ Bs A B) {v : Value} (hc : A.cell? ⟨Bs, 0, none⟩ = some v) : B.cell? ⟨Bs, 0, none⟩ = some v := by
  rw [← hc]; simp only [World.cell?]; rw [h.2]
set_option maxRecDepth 100000 in
set_option maxHeartbeats 2000000 in
/-- slices.Backward's closure: the last one first. -/
theorem back1_in (F : Fence) (n : Nat) (h8 : F.fn 164) (hro : F.round = none) (hn : 1 ≤ n) (w0 : World) (n₀ base l Bs b len cap : Nat) (f : Nat → El w0 base) (hlen : len ≤ 1000000) (hb : b < n₀) (J Jx : List (El w0 base) → World → Prop)
    (hY : ∀ pre x W, J pre W → pre.length < len → YieldAt F (n - 1) Try.prog l #[.int .i64 x.i, x.v] W fun e W' =>
      (e = .returned (.bool true) ∧ J (pre ++ [x]) W' ∧ Kp n₀ Bs W W') ∨ (e = .returned (.bool false) ∧ Jx (pre ++ [x]) W'))
    (W : World) (hBs : W.cell? ⟨Bs, 0, none⟩ = some (.slice (some ⟨b, 0, none⟩) len cap)) (hc : ∀ j, j < len → (f j).i = ((len - 1 - j : Nat) : Int) ∧ SixAt W b (len - 1 - j) (f j).t (f j).v2 (f j).v5) (h0 : J [] W) :
    CallsIn F n Try.prog 164 #[.func (.yield l) #[] #[], .pointer (some ⟨Bs, 0, none⟩)] W fun e W' => (∃ v, e = .returned v) ∧
      ((∃ ys, ys = upto f len ∧ J ys W') ∨ (∃ pre, (∃ k, k ≤ len ∧ pre = upto f k) ∧ Jx pre W')) := by
  refine callsIn_of_wp Try.func164 rfl h8 ?_ hro
  simp only [Try.ntmps164, List.size_toArray, List.length_cons, List.length_nil, Nat.reduceAdd, Nat.reduceSub, Array.replicate_succ, Array.replicate_zero, List.push_toArray, List.append_toArray, List.nil_append, List.cons_append]
  gi_wp2
  gi_loopw [3] (fun i wr => ∃ k : Nat, k ≤ len ∧ i = .int .i64 ((len : Int) - 1 - k) ∧ J (upto f k) wr ∧ Kp n₀ Bs W wr)
    (fun i _ => (intOf i + 1).toNat)
  case atStart => exact ⟨0, Nat.zero_le _, by simp, h0, Kp.refl _ _ _⟩
  case round =>
    obtain ⟨k, hk, rfl, hJs, hnx⟩ := hrel
    by_cases hlt : k < len
    · obtain ⟨hi, c0, c1, c2, c3, c4, c5⟩ := hc k hlt
      obtain ⟨jj, hjj⟩ : ∃ jj, len - 1 - k = jj := ⟨_, rfl⟩
      rw [hjj] at hi c0 c1 c2 c3 c4 c5
      have ek : (len : Int) - 1 - k = (jj : Int) := by omega
      rw [ek]
      have d0 := (hnx.1.cell (p := ⟨b, jj * 6, none⟩) hb).trans c0
      have d1 := (hnx.1.cell (p := ⟨b, jj * 6 + 1, none⟩) hb).trans c1
      have d2 := (hnx.1.cell (p := ⟨b, jj * 6 + 2, none⟩) hb).trans c2
      have d3 := (hnx.1.cell (p := ⟨b, jj * 6 + 3, none⟩) hb).trans c3
      have d4 := (hnx.1.cell (p := ⟨b, jj * 6 + 4, none⟩) hb).trans c4
      have d5 := (hnx.1.cell (p := ⟨b, jj * 6 + 5, none⟩) hb).trans c5
      have dB := hnx.box hBs
      obtain ⟨fn, tmps, assign, body, hy, hR⟩ := hY _ (f k) wr hJs (by rw [upto_length]; exact hlt)
      have o2 := (f k).one2
      have o5 := (f k).one5
      rw [hi] at hy
      dsimp only [El.v] at hy
      have hjl : jj < len := by omega
      clear c0 c1 c2 c3 c4 c5
      gi_wp2
      refine hR.mono ?_
      rintro e W3 (⟨rfl, hJ3, hk3⟩ | ⟨rfl, hJx3⟩)
      · gi_wp2
        go_roundw
        case rel => exact ⟨k + 1, by omega, by congr 1 <;> omega, by rw [upto_succ]; exact hJ3, hnx.trans hk3⟩
        case measure => simp [intOf] <;> omega
      · gi_wp2
        refine bodyPost_ret (results_none rfl _ _ _) rfl ?_
        exact ⟨⟨_, rfl⟩, .inr ⟨_, ⟨k + 1, by omega, (upto_succ _ _).symm⟩, hJx3⟩⟩
    · obtain rfl : k = len := by omega
      have hneg : ¬ ((k : Int) - 1 - k ≥ 0) := by omega
      have hneg2 : (k : Int) - 1 - k = -1 := by omega
      gi_wp2
      go_end0
      exact ⟨⟨_, rfl⟩, .inl hJs⟩
set_option maxRecDepth 100000 in
set_option maxHeartbeats 1000000 in
/-- .. at the nil slice: no round. -/
theorem back1_nil_in (F : Fence) (n : Nat) (h8 : F.fn 164) (hro : F.round = none) (w0 : World) (base l Bs : Nat) (J : List (El w0 base) → World → Prop) (W : World) (hBs : W.cell? ⟨Bs, 0, none⟩ = some (.slice none 0 0)) (h0 : J [] W) :
    CallsIn F n Try.prog 164 #[.func (.yield l) #[] #[], .pointer (some ⟨Bs, 0, none⟩)] W fun e W' => (∃ v, e = .returned v) ∧ J [] W' := by
  refine callsIn_of_wp Try.func164 rfl h8 ?_ hro
  simp only [Try.ntmps164, List.size_toArray, List.length_cons, List.length_nil, Nat.reduceAdd, Nat.reduceSub, Array.replicate_succ, Array.replicate_zero, List.push_toArray, List.append_toArray, List.nil_append, List.cons_append]
  gi_wp2
  gi_loopw [3] (fun i wr => i = .int .i64 (-1) ∧ J [] wr) (fun _ _ => 0)
  case atStart => exact ⟨rfl, h0⟩
  case round =>
    obtain ⟨rfl, hJs⟩ := hrel
    gi_wp2
    go_end0
    exact ⟨⟨_, rfl⟩, hJs⟩
set_option maxHeartbeats 1000000 in
/-- slices.Backward: the slice is boxed; the function value holds the box. -/
theorem back_in (F : Fence) (n : Nat) (h6 : F.fn 162) (hro : F.round = none) (a : Option Addr) (len cap : Nat) (w : World) :
    CallsIn F n Try.prog 162 #[.slice a len cap] w fun e w' => e = .returned (.func (.func 164) #[] #[.pointer (some ⟨w.heap.size, 0, none⟩)]) ∧ w' = w.alloc (.cells #[.slice a len cap] 32) := by
  refine callsIn_of_wp Try.func162 rfl h6 ?_ hro
  simp only [Try.ntmps162, List.size_toArray, List.length_cons, List.length_nil, Nat.reduceAdd, Nat.reduceSub, Array.replicate_succ, Array.replicate_zero, List.push_toArray, List.append_toArray, List.nil_append, List.cons_append]
  gi_wp2
  go_ret
  exact ⟨rfl, rfl⟩
/-- The slice's value: nil, or a row of elements. -/
def Row0 (w0 : World) (base : Nat) (sv : Value) (len : Nat) (f : Nat → El w0 base) : Prop :=
  (sv = .slice none 0 0 ∧ len = 0) ∨ ∃ b cap, sv = .slice (some ⟨b, 0, none⟩) len cap ∧ b < w0.heap.size ∧ ∀ j, j < len → (f j).i = ((len - 1 - j : Nat) : Int) ∧ SixAt w0 b (len - 1 - j) (f j).t (f j).v2 (f j).v5
theorem SixAt.below {w W : World} {g j : Nat} {t : TT} {v2 v5 : Value} {B : Nat} (h : SixAt w g j t v2 v5) (hb : Below B w W) (hg : g < B) : SixAt W g j t v2 v5 := by
  obtain ⟨c0, c1, c2, c3, c4, c5⟩ := h
  exact ⟨(hb.cell (p := ⟨g, _, none⟩) hg).trans c0, (hb.cell (p := ⟨g, _, none⟩) hg).trans c1, (hb.cell (p := ⟨g, _, none⟩) hg).trans c2, (hb.cell (p := ⟨g, _, none⟩) hg).trans c3, (hb.cell (p := ⟨g, _, none⟩) hg).trans c4, (hb.cell (p := ⟨g, _, none⟩) hg).trans c5⟩
theorem back_stops (F : Fence) (n : Nat) (h8 : F.fn 164) (hro : F.round = none) (hn : 1 ≤ n) (w0 : World) (base Bs : Nat) (sv : Value) (len : Nat) (f : Nat → El w0 base) (hlen : len ≤ 1000000) (w : World) (hBs : Bs < w.heap.size) (hw : Below w0.heap.size w0 w)
    (hc : w.cell? ⟨Bs, 0, none⟩ = some sv) (hI : Row0 w0 base sv len f) :
    SeqStopsK F n Try.prog 164 #[.pointer (some ⟨Bs, 0, none⟩)] (fun x : El w0 base => #[Value.int .i64 x.i, x.v]) (Kp w0.heap.size Bs) (fun ys => ys = upto f len) (fun pre => ∃ k, k ≤ len ∧ pre = upto f k) len w := fun l J Jx W hW _ _ hY h0 => by
  have hc' := (hW.cell (p := ⟨Bs, 0, none⟩) hBs).trans hc
  rcases hI with ⟨rfl, rfl⟩ | ⟨b, cap, rfl, hb, hcs⟩
  · exact (back1_nil_in F n h8 hro w0 base l Bs J W hc' h0).mono fun e W' ⟨he, hj⟩ => ⟨he, .inl ⟨_, rfl, hj⟩⟩
  · exact back1_in F n h8 hro hn w0 w0.heap.size base l Bs b len cap f hlen hb J Jx hY W hc' (fun j hj => ⟨(hcs j hj).1, ((hcs j hj).2.below hw hb).below hW (Nat.lt_of_lt_of_le hb hw.size)⟩) h0
/-! ### the law of term.List -/
def consT (t u : TT) : TT := ⟨4, ⟨false, []⟩, ⟨#[]⟩, 0, [t, u]⟩
def consL (xs : List TT) (x : TT) : TT := xs.foldr consT x
def six (x : TT) (v2 v5 : Value) : List Value := [.int .i64 x.f0, .bool x.f1.f0, v2, .string x.f2, .int .i64 x.f3, v5]
/-- Two terms in a row that is made: the kids of a list's cell. -/
theorem two_row {w : World} {base : Nat} {ok : Nat → Prop} {t u : TT} {a2 a5 b2 b5 : Value} (hb : base ≤ w.heap.size) (hf : ok w.heap.size)
    (ht : kT.M w base ok t (six t a2 a5)) (hu : kT.M w base ok u (six u b2 b5)) :
    kT.R 43 (w.alloc (.cells (six t a2 a5 ++ six u b2 b5).toArray 43)) base ok (.slice (some ⟨w.heap.size, 0, none⟩) 2 2) [t, u] := by
  have hsz : kT.sz = 6 := rfl
  have hrep : Reps (kT.M w base ok) 6 [t, u] (six t a2 a5 ++ six u b2 b5) := by
    have := (Reps.none (kT.M w base ok) 6).snoc ht rfl
    exact Reps.snoc this hu rfl
  refine ⟨fun k hk => ?_, six t a2 a5 ++ six u b2 b5, ?_, ?_⟩
  · have : w.heap.size = k := by simpa [Value.ownBlock] using hk
    subst this
    exact hf
  · exact ⟨rfl, .inr ⟨w.heap.size, 2, _, rfl, hb, World.alloc_heap_new _ _, Nat.le_refl _, by simp [maxLen], rfl, rfl⟩⟩
  · refine hrep.imp_ (fun p c hp => kT.M_mono (fun k hk => ⟨hk.1, fun he => ?_⟩) (Kd.M_below (kT.M_bound hp) (below_alloc (Below.refl _ _) _)))
    have h3 : k = w.heap.size := by simpa [Value.ownBlock] using he
    have := hk.2.2.1
    omega
theorem cons_mk {w : World} {base : Nat} {ok : Nat → Prop} {t u : TT} {v5 : Value} (h : kT.R 43 w base ok v5 [t, u]) : kT.M w base ok (consT t u) (six (consT t u) (.slice none 0 0) v5) :=
  k43_mkM w base ok (consT t u) (Kd.R_nil _ _ _ _ _) h
theorem m_slices {w : World} {base : Nat} {ok : Nat → Prop} {x : TT} {v2 v5 : Value} (h : kT.M w base ok x (six x v2 v5)) : (∃ A n c, v2 = .slice A n c) ∧ ∃ A n c, v5 = .slice A n c := by
  obtain ⟨q2, q5, he, h2, h5⟩ := k43_openM h
  have e2 : v2 = q2 := Option.some.inj (congrArg (fun l : List Value => l[2]?) he)
  have e5 : v5 = q5 := Option.some.inj (congrArg (fun l : List Value => l[5]?) he)
  subst e2 e5
  obtain ⟨A, c, h⟩ := Kd.R_slice h2
  obtain ⟨A', c', h'⟩ := Kd.R_slice h5
  exact ⟨⟨A, _, c, h⟩, ⟨A', _, c', h'⟩⟩
/-- A box of a term. -/
def Box6 (W : World) (b : Nat) (x : TT) (v2 v5 : Value) : Prop := W.heap[b]? = some (.cells #[.int .i64 x.f0, .bool x.f1.f0, v2, .string x.f2, .int .i64 x.f3, v5] 43 (0, 0))
theorem m_own {W W' : World} {base : Nat} {ok : Nat → Prop} {x : TT} {cs : List Value} {row : Option Nat} (h : kT.M W base ok x cs) (hg : W.grownBy W' row) (hr : ∀ r, row = some r → ∃ o : Obj, W.heap[r]? = some o ∧ o.isCells = false) : kT.M W' base ok x cs := by
  refine kT.M_mono (fun _ hk => hk.1) (kT.M_move (fun k hk => ?_) (kT.M_bound h))
  obtain ⟨_, _, hlt, q, _, cells, hc⟩ := hk
  refine hg.block k hlt (fun e => ?_)
  obtain ⟨o, ho, hn⟩ := hr k e.symm
  rw [hc] at ho
  obtain rfl := Option.some.inj ho
  exact absurd hn (by simp [Obj.isCells])
theorem box6_own {W W' : World} {b : Nat} {x : TT} {v2 v5 : Value} {row : Option Nat} (h : Box6 W b x v2 v5) (hg : W.grownBy W' row) (hr : ∀ r, row = some r → ∃ o : Obj, W.heap[r]? = some o ∧ o.isCells = false) : Box6 W' b x v2 v5 := by
  refine (hg.block b (Array.getElem?_eq_some_iff.1 h).1 (fun e => ?_)).trans h
  obtain ⟨o, ho, hn⟩ := hr b e.symm
  have h' : W.heap[b]? = _ := h
  rw [h'] at ho
  obtain rfl := Option.some.inj ho
  exact absurd hn (by simp [Obj.isCells])
/-- The elements of a row, from the last one. -/
theorem row_els {w : World} {base : Nat} {A : Option Addr} {c : Nat} {xs : List TT} (h : kT.R 43 w base (fun _ => True) (.slice A xs.length c) xs) :
    ∃ f : Nat → El w base, Row0 w base (.slice A xs.length c) xs.length f ∧ ∀ j, j < xs.length → (f j).t = xs.getD (xs.length - 1 - j) z43 := by
  have hz : kT.M w base (fun k => k < w.heap.size) z43 (six z43 (.slice none 0 0) (.slice none 0 0)) := k43_mkM w base _ z43 (Kd.R_nil _ _ _ _ _) (Kd.R_nil _ _ _ _ _)
  let e0 : El w base := ⟨0, z43, .slice none 0 0, .slice none 0 0, rfl, rfl, ⟨_, _, _, rfl⟩, ⟨_, _, _, rfl⟩, hz⟩
  rcases A with _ | ad
  · have hn : xs.length = 0 := by
      obtain ⟨_, inner, ho, _⟩ := h
      rcases ho.2 with ⟨he, hn⟩ | ⟨g, cap, cur, he, _⟩
      · exact hn
      · cases he
    have hc : c = 0 := by
      obtain ⟨_, inner, ho, _⟩ := h
      rcases ho.2 with ⟨he, hn⟩ | ⟨g, cap, cur, he, _⟩
      · injection he
      · cases he
    subst hc
    exact ⟨fun _ => e0, .inl ⟨by rw [hn], hn⟩, fun j hj => by omega⟩
  · obtain ⟨g, rfl⟩ := Kd.R_head h
    have hg : g < w.heap.size := by
      have := Kd.R_bound h
      exact (this.1 g (by simp [Value.ownBlock])).2.2.1
    have hex : ∀ j, ∃ e : El w base, j < xs.length → (e.i = ((xs.length - 1 - j : Nat) : Int) ∧ SixAt w g (xs.length - 1 - j) e.t e.v2 e.v5) ∧ e.t = xs.getD (xs.length - 1 - j) z43 := by
      intro j
      by_cases hj : j < xs.length
      · obtain ⟨cs, hl, hM, hcell, _⟩ := Kd.R_elem h z43 ((xs.length - 1 - j : Nat) : Int) (by omega) (by omega)
        rw [Int.toNat_natCast] at hM hcell
        obtain ⟨v2, v5, rfl, h2, h5⟩ := k43_openM hM
        have hM2 := kT.M_mono (ok' := fun k => k < w.heap.size) (fun k hk => hk.2.2.1) (kT.M_bound hM)
        refine ⟨⟨((xs.length - 1 - j : Nat) : Int), _, v2, v5, (Kd.R_val h2).2, (Kd.R_val h5).2, let ⟨A, c, h⟩ := Kd.R_slice h2; ⟨A, _, c, h⟩, let ⟨A, c, h⟩ := Kd.R_slice h5; ⟨A, _, c, h⟩, hM2⟩, fun _ => ⟨⟨rfl, hcell 0 _ rfl, hcell 1 _ rfl, hcell 2 _ rfl, hcell 3 _ rfl, hcell 4 _ rfl, hcell 5 _ rfl⟩, rfl⟩⟩
      · exact ⟨e0, fun h => absurd h hj⟩
    refine ⟨fun j => Classical.choose (hex j), .inr ⟨g, c, rfl, hg, fun j hj => (Classical.choose_spec (hex j) hj).1⟩, fun j hj => (Classical.choose_spec (hex j) hj).2⟩
def accF {w : World} {base : Nat} (x : TT) (pre : List (El w base)) : TT := pre.foldl (fun u e => consT e.t u) x
theorem accF_snoc {w : World} {base : Nat} (x : TT) (pre : List (El w base)) (e : El w base) : accF x (pre ++ [e]) = consT e.t (accF x pre) := by simp [accF]
theorem accF_all {w : World} {base : Nat} (x : TT) (xs : List TT) (f : Nat → El w base) (hf : ∀ j, j < xs.length → (f j).t = xs.getD (xs.length - 1 - j) z43) :
    ∀ k, k ≤ xs.length → accF x (upto f k) = consL (xs.drop (xs.length - k)) x := by
  intro k
  induction k with
  | zero => intro _; simp [upto, accF, consL]
  | succ k ih =>
    intro hk
    rw [upto_succ, accF_snoc, ih (by omega), hf k (by omega)]
    have hlt : xs.length - (k + 1) < xs.length := by omega
    rw [show xs.drop (xs.length - (k + 1)) = xs[xs.length - (k + 1)] :: xs.drop (xs.length - k) by
      rw [List.drop_eq_getElem_cons hlt]; congr 2; omega]
    simp only [consL, List.foldr_cons]
    rw [show xs.length - 1 - k = xs.length - (k + 1) by omega, List.getD_eq_getElem?_getD, List.getElem?_eq_getElem hlt]
    rfl
theorem six_get {w : World} {g : Nat} {a b c d e f : Value} {t : TypeId} (h : w.heap[g]? = some (.cells #[a, b, c, d, e, f] t (0, 0))) : w.cell? ⟨g, 0, none⟩ = some a ∧ w.cell? ⟨g, 1, none⟩ = some b ∧ w.cell? ⟨g, 2, none⟩ = some c ∧ w.cell? ⟨g, 3, none⟩ = some d ∧ w.cell? ⟨g, 4, none⟩ = some e ∧ w.cell? ⟨g, 5, none⟩ = some f := by
  refine ⟨?_, ?_, ?_, ?_, ?_, ?_⟩ <;> simp [World.cell?, h]
theorem six_fr {w : World} {g : Nat} {a b c d e f : Value} {t : TypeId} (h : w.heap[g]? = some (.cells #[a, b, c, d, e, f] t (0, 0))) : w.frozen? ⟨g, 0, none⟩ = false ∧ w.frozen? ⟨g, 1, none⟩ = false ∧ w.frozen? ⟨g, 2, none⟩ = false ∧ w.frozen? ⟨g, 3, none⟩ = false ∧ w.frozen? ⟨g, 4, none⟩ = false ∧ w.frozen? ⟨g, 5, none⟩ = false := by
  refine ⟨?_, ?_, ?_, ?_, ?_, ?_⟩ <;> simp [World.frozen?, h]
/-- Six stores into a box. -/
structure SixPut (V V' : World) (g : Nat) (o : Obj) : Prop where
  new : V'.heap[g]? = some o
  old : ∀ k, k ≠ g → V'.heap[k]? = V.heap[k]?
  size : V'.heap.size = V.heap.size
  keeps : KeepsOthers V V'
  below : ∀ B W, Below B W V → B ≤ g → Below B W V'
theorem six_stored {V : World} {g : Nat} {a b c d e f : Value} {t : TypeId} (a' b' c' d' e' f' : Value) (h : V.heap[g]? = some (.cells #[a, b, c, d, e, f] t (0, 0))) :
    SixPut V ((((((V.setCell ⟨g, 0, none⟩ a').setCell ⟨g, 1, none⟩ b').setCell ⟨g, 2, none⟩ c').setCell ⟨g, 3, none⟩ d').setCell ⟨g, 4, none⟩ e').setCell ⟨g, 5, none⟩ f') g (.cells #[a', b', c', d', e', f'] t (0, 0)) := by
  refine ⟨blk_put (blk_put (blk_put (blk_put (blk_put (blk_put h 0 a' rfl) 1 b' rfl) 2 c' rfl) 3 d' rfl) 4 e' rfl) 5 f' rfl, fun k hk => ?_, by simp, ?_, fun B W hb hg => ?_⟩
  · rw [Below.heap_setCell _ _ _ _ hk, Below.heap_setCell _ _ _ _ hk, Below.heap_setCell _ _ _ _ hk, Below.heap_setCell _ _ _ _ hk, Below.heap_setCell _ _ _ _ hk, Below.heap_setCell _ _ _ _ hk]
  · exact (((((KeepsOthers.setCell _ _ _).trans (KeepsOthers.setCell _ _ _)).trans (KeepsOthers.setCell _ _ _)).trans (KeepsOthers.setCell _ _ _)).trans (KeepsOthers.setCell _ _ _)).trans (KeepsOthers.setCell _ _ _)
  · exact (((((hb.setCell (p := ⟨g, _, none⟩) hg _).setCell (p := ⟨g, _, none⟩) hg _).setCell (p := ⟨g, _, none⟩) hg _).setCell (p := ⟨g, _, none⟩) hg _).setCell (p := ⟨g, _, none⟩) hg _).setCell (p := ⟨g, _, none⟩) hg _
set_option maxRecDepth 100000 in
set_option maxHeartbeats 4000000 in
/-- term.List: the terms of a row, ahead of a last one. -/
theorem list_calls (w : World) (base : Nat) (hbase : base ≤ w.heap.size) (A : Option Addr) (c : Nat) (xs : List TT) (hlen : xs.length ≤ 1000000) (x : TT) (v2 v5 : Value) (hR : kT.R 43 w base (fun _ => True) (.slice A xs.length c) xs) (hx : kT.M w base (fun _ => True) x (six x v2 v5)) :
    Calls Try.prog 153 #[.slice A xs.length c, .agg (six x v2 v5).toArray] w fun e w' => ∃ u2 u5, e = .returned (.agg (six (consL xs x) u2 u5).toArray) ∧ kT.M w' base (fun _ => True) (consL xs x) (six (consL xs x) u2 u5) ∧ Below w.heap.size w w' := by
  refine (callsIn_wide (n := 3)).1 ?_
  obtain ⟨f, hrow, hft⟩ := row_els hR
  obtain ⟨⟨A2, n2, c2, rfl⟩, A5, n5, c5, rfl⟩ := m_slices hx
  unfold six
  refine callsIn_of_wp_marks Try.func153 rfl trivial ?_ rfl
  simp only [Try.ntmps153, List.size_toArray, List.length_cons, List.length_nil, Nat.reduceAdd, Nat.reduceSub, Array.replicate_succ, Array.replicate_zero, List.push_toArray, List.append_toArray, List.nil_append, List.cons_append]
  gi_wp2_with (refine ⟨trivial, ?_⟩; gi_at_call 162; refine (back_in Fence.wide _ trivial rfl _ _ _ _).mono ?_; rintro e w' ⟨rfl, rfl⟩)
  obtain ⟨sz, hsz⟩ : ∃ sz, w.heap.size = sz := ⟨_, rfl⟩
  obtain ⟨W0, hW0⟩ : ∃ W0, ((w.alloc (Obj.cells #[.int .i64 x.f0, .bool x.f1.f0, .slice A2 n2 c2, .string x.f2, .int .i64 x.f3, .slice A5 n5 c5] 43)).alloc (Obj.cells #[.int .i64 0, .bool false, .slice none 0 0, .string ⟨#[]⟩, .int .i64 0, .slice none 0 0] 43)).alloc (Obj.cells #[.slice A xs.length c] 32) = W0 := ⟨_, rfl⟩
  have hbw : Below w.heap.size w W0 := by rw [← hW0]; exact below_alloc (below_alloc (below_alloc (Below.refl _ _) _) _) _
  have hs0 : W0.heap.size = sz + 3 := by rw [← hW0, ← hsz]; simp
  have hB3 : W0.heap[sz]? = some (.cells #[.int .i64 x.f0, .bool x.f1.f0, .slice A2 n2 c2, .string x.f2, .int .i64 x.f3, .slice A5 n5 c5] 43 (0, 0)) := by
    rw [← hW0, ← hsz]
    exact ((Below.heap_alloc _ _ _ (by simp <;> omega)).trans (Below.heap_alloc _ _ _ (by simp))).trans (World.alloc_heap_new w _)
  have hB4 : W0.heap[sz + 1]? = some (.cells #[.int .i64 0, .bool false, .slice none 0 0, .string ⟨#[]⟩, .int .i64 0, .slice none 0 0] 43 (0, 0)) := by
    rw [← hW0, ← hsz]
    have := World.alloc_heap_new (w.alloc (Obj.cells #[.int .i64 x.f0, .bool x.f1.f0, .slice A2 n2 c2, .string x.f2, .int .i64 x.f3, .slice A5 n5 c5] 43)) (Obj.cells #[.int .i64 0, .bool false, .slice none 0 0, .string ⟨#[]⟩, .int .i64 0, .slice none 0 0] 43)
    rw [World.size_alloc] at this
    exact (Below.heap_alloc _ _ _ (by simp)).trans this
  have hB5 : W0.cell? ⟨sz + 1 + 1, 0, none⟩ = some (.slice A xs.length c) := by
    have := Boxed.new ((w.alloc (Obj.cells #[.int .i64 x.f0, .bool x.f1.f0, .slice A2 n2 c2, .string x.f2, .int .i64 x.f3, .slice A5 n5 c5] 43)).alloc (Obj.cells #[.int .i64 0, .bool false, .slice none 0 0, .string ⟨#[]⟩, .int .i64 0, .slice none 0 0] 43)) 32 (.slice A xs.length c)
    rw [hW0, World.size_alloc, World.size_alloc, hsz] at this
    exact this.cell
  have hM0 : kT.M W0 base (fun k => k ≠ sz ∧ k ≠ sz + 1) x (six x (.slice A2 n2 c2) (.slice A5 n5 c5)) := Kd.M_below (kT.M_mono (fun k hk => by have := hk.2.2.1; omega) (kT.M_bound hx)) hbw
  rw [hsz, hW0]
  refine wpIn_rangeFunc_ownH rfl (by omega) (gf := 164) (lb := #[.pointer (some ⟨sz + 1 + 1, 0, none⟩)]) rfl trivial (enters_of Try.func164 (by kernel_rfl) rfl)
    (back_stops Fence.wide (3 - 1) trivial rfl (by omega) w base (sz + 1 + 1) (.slice A xs.length c) xs.length f hlen W0 (by omega) hbw hB5 hrow) Kp.trans (fun W l o o' hl ho hc _ => ⟨belowK_b (w := W0) (by omega) W l o o' hl ho hc ‹_›, by rw [World.putObj_heap_other (by omega)]⟩) (Below.refl _ _) (fun _ => rfl)
    (fun pre W => ((∃ u2 u5, Box6 W sz (accF x pre) u2 u5 ∧ kT.M W base (fun k => k ≠ sz ∧ k ≠ sz + 1) (accF x pre) (six (accF x pre) u2 u5)) ∧ Box6 W (sz + 1) z43 (.slice none 0 0) (.slice none 0 0)) ∧ (Below sz w W ∧ sz + 3 ≤ W.heap.size))
    (fun _ _ _ => False)
    ?hI (fun _ _ _ _ _ hs _ _ => hs) ?h0
    (fun e a' W => ∃ Bx, sz + 2 < Bx ∧ Box6 W Bx e.t e.v2 e.v5 ∧ a' = { tmps := #[.slice A xs.length c, .agg #[.int .i64 x.f0, .bool x.f1.f0, .slice A2 n2 c2, .string x.f2, .int .i64 x.f3, .slice A5 n5 c5], undef, .pointer (some ⟨sz, 0, none⟩), .pointer (some ⟨sz + 1, 0, none⟩), undef, .pointer (some ⟨Bx, 0, none⟩), .slice A xs.length c, .func (.func 164) #[] #[.pointer (some ⟨sz + 1 + 1, 0, none⟩)], .int .i64 e.i, e.v, undef, undef, undef, undef, undef], defers := [] })
    ?hAx ?assign ?body ?done ?stop
  case hI =>
    intro pre W W' row hs hg hr
    obtain ⟨⟨⟨u2, u5, h1, h2⟩, h3⟩, h4, h5⟩ := hs
    exact ⟨⟨⟨u2, u5, box6_own h1 hg (fun r e => (hr r e).2), m_own h2 hg (fun r e => (hr r e).2)⟩, box6_own h3 hg (fun r e => (hr r e).2)⟩, h4.grown hg (by have := h4.size; omega) (fun k e => by have := (hr k e).1; omega), Nat.le_trans h5 hg.size⟩
  case h0 => exact ⟨⟨⟨_, _, hB3, hM0⟩, hB4⟩, hsz ▸ hbw, by omega⟩
  case hAx =>
    intro e a' s W W' row hs hg hr
    obtain ⟨Bx, h1, h2, h3⟩ := hs
    exact ⟨Bx, h1, box6_own h2 hg (fun r e => (hr r e).2), h3⟩
  case assign =>
    rintro l pre e W K ⟨⟨⟨u2, u5, b3, m3⟩, b4⟩, hB, hzW⟩ hK
    obtain ⟨B2, m2, d2, he2⟩ := e.e2
    obtain ⟨B5, m5, d5, he5⟩ := e.e5
    unfold El.v
    obtain ⟨V, hV⟩ : ∃ V, W.alloc (Obj.cells #[.int .i64 0, .bool false, .slice none 0 0, .string ⟨#[]⟩, .int .i64 0, .slice none 0 0] 43) = V := ⟨_, rfl⟩
    obtain ⟨Bx, hBx⟩ : ∃ Bx, W.heap.size = Bx := ⟨_, rfl⟩
    have hn : V.heap[Bx]? = some (.cells #[.int .i64 0, .bool false, .slice none 0 0, .string ⟨#[]⟩, .int .i64 0, .slice none 0 0] 43 (0, 0)) := by rw [← hV, ← hBx]; exact World.alloc_heap_new _ _
    have hSP := six_stored (.int .i64 e.t.f0) (.bool e.t.f1.f0) (.slice B2 m2 d2) (.string e.t.f2) (.int .i64 e.t.f3) (.slice B5 m5 d5) hn
    have hold : ∀ k, k < Bx → V.heap[k]? = W.heap[k]? := fun k hk => by rw [← hV]; exact Below.heap_alloc _ _ _ (by omega)
    have hVs : V.heap.size = Bx + 1 := by rw [← hV, ← hBx]; simp
    have hko : KeepsOthers W V := by rw [← hV]; exact KeepsOthers.alloc _ _
    have hbv : Below sz W V := by rw [← hV]; exact (Below.refl _ W).alloc (by omega) _
    obtain ⟨p0, p1, p2, p3, p4, p5⟩ := six_get hn
    obtain ⟨z0, z1, z2, z3, z4, z5⟩ := six_fr hn
    rw [he2, he5]
    gi_wp2
    have hall : ∀ k, k < Bx → _ := fun k hk => (hSP.old k (by omega)).trans (hold k hk)
    refine hK _ _ ((hko.trans hSP.keeps).from _) ⟨by rw [hsz]; exact hSP.below _ _ hbv (by omega), hall _ (by omega)⟩ ⟨⟨⟨u2, u5, (hall sz (by omega)).trans b3, Kd.M_step m3 (fun k _ hk => hall k (by omega))⟩, (hall _ (by omega)).trans b4⟩, hSP.below _ _ (hB.trans hbv) (by omega), by rw [hSP.size]; omega⟩ ⟨Bx, by omega, ?_, by unfold El.v; rw [he2, he5]⟩
    have := hSP.new
    unfold Box6
    rw [he2, he5]
    exact this
  case body =>
    rintro l pre e a' W hl ⟨r, hr⟩ ⟨⟨⟨u2, u5, b3, m3⟩, b4⟩, hB, hzW⟩ ⟨Bx, hBx, bX, rfl⟩ hlt
    obtain ⟨B2, m2, d2, he2⟩ := e.e2
    obtain ⟨B5, m5, d5, he5⟩ := e.e5
    obtain ⟨⟨C2, r2, t2, rfl⟩, C5, r5, t5, rfl⟩ := m_slices m3
    obtain ⟨cur, hcur⟩ : ∃ cur, accF x pre = cur := ⟨_, rfl⟩
    rw [hcur] at b3 m3
    have hme := e.m
    unfold Box6 at b3 bX
    rw [he2, he5] at bX hme
    unfold El.v
    rw [he2, he5]
    obtain ⟨p0, p1, p2, p3, p4, p5⟩ := six_get b3
    obtain ⟨z0, z1, z2, z3, z4, z5⟩ := six_fr b3
    obtain ⟨x0, x1, x2, x3, x4, x5⟩ := six_get bX
    obtain ⟨V, hV⟩ : ∃ V, W.alloc (Obj.cells #[.int .i64 e.t.f0, .bool e.t.f1.f0, .slice B2 m2 d2, .string e.t.f2, .int .i64 e.t.f3, .slice B5 m5 d5, .int .i64 cur.f0, .bool cur.f1.f0, .slice C2 r2 t2, .string cur.f2, .int .i64 cur.f3, .slice C5 r5 t5] 43) = V := ⟨_, rfl⟩
    have hold : ∀ k, k < W.heap.size → V.heap[k]? = W.heap[k]? := fun k hk => by rw [← hV]; exact Below.heap_alloc _ _ _ hk
    have hVs : V.heap.size = W.heap.size + 1 := by rw [← hV]; simp
    have hko : KeepsOthers W V := by rw [← hV]; exact KeepsOthers.alloc _ _
    have hbv : Below sz W V := by rw [← hV]; exact (Below.refl _ W).alloc (by omega) _
    have b3V := (hold sz (by omega)).trans b3
    have hrow2 : kT.R 43 V base (fun k => k ≠ sz ∧ k ≠ sz + 1) (.slice (some ⟨W.heap.size, 0, none⟩) 2 2) [e.t, cur] := by
      rw [← hV]
      exact two_row (by omega) (by omega) (Kd.M_below (w := w) (kT.M_mono (fun k hk => by have : k < w.heap.size := hk; omega) hme) (hsz ▸ hB)) m3
    have hSP := six_stored (.int .i64 4) (.bool false) (.slice none 0 0) (.string ⟨#[]⟩) (.int .i64 0) (.slice (some ⟨W.heap.size, 0, none⟩) 2 2) b3V
    obtain ⟨y0, y1, y2, y3, y4, y5⟩ := six_get b3V
    obtain ⟨n0, n1, n2', n3, n4, n5'⟩ := six_fr b3V
    gi_wp2
    have hacc := accF_snoc x pre e
    rw [hcur] at hacc
    refine ⟨(hko.trans hSP.keeps).from _, ⟨by rw [hsz]; exact hSP.below _ _ hbv (by omega), (hSP.old _ (by omega)).trans (hold _ (by omega))⟩, ⟨⟨.slice none 0 0, .slice (some ⟨W.heap.size, 0, none⟩) 2 2, ?_, ?_⟩, (hSP.old _ (by omega)).trans ((hold _ (by omega)).trans b4)⟩, hSP.below _ _ (hB.trans hbv) (by omega), by rw [hSP.size]; omega⟩
    · rw [hacc]; exact hSP.new
    · rw [hacc]; exact Kd.M_step (cons_mk hrow2) (fun k hk _ => hSP.old k hk.1)
  case done =>
    rintro D ys W hD rfl ⟨⟨⟨u2, u5, b3, m3⟩, b4⟩, hB, hzW⟩ hK
    rw [accF_all x xs f hft xs.length (Nat.le_refl _), Nat.sub_self, List.drop_zero] at b3 m3
    obtain ⟨⟨C2, r2, t2, rfl⟩, C5, r5, t5, rfl⟩ := m_slices m3
    obtain ⟨cur, hcur⟩ : ∃ cur, consL xs x = cur := ⟨_, rfl⟩
    rw [hcur] at b3 m3
    unfold Box6 at b3 b4
    have hSP := six_stored (.int .i64 cur.f0) (.bool cur.f1.f0) (.slice C2 r2 t2) (.string cur.f2) (.int .i64 cur.f3) (.slice C5 r5 t5) b4
    obtain ⟨p0, p1, p2, p3, p4, p5⟩ := six_get b3
    obtain ⟨y0, y1, y2, y3, y4, y5⟩ := six_get b4
    obtain ⟨n0, n1, n2', n3, n4, n5'⟩ := six_fr b4
    gi_wp2
    rw [hcur]
    have hD1 : D ≠ sz + 1 := by omega
    have hK2 := (hSP.old D hD1).trans hK
    refine ⟨by simp, .inl ⟨_, _, rfl, run_takeDeferred hK2, ?_⟩⟩
    have hfin : ∀ (V : World) k, k ≠ D → (V.putObj D (.deferred none)).heap[k]? = V.heap[k]? := fun V k hk => World.putObj_heap_other (by omega)
    refine ⟨_, results_cell_row rfl _ _ (sz + 1) 43 #[.int .i64 cur.f0, .bool cur.f1.f0, .slice C2 r2 t2, .string cur.f2, .int .i64 cur.f3, .slice C5 r5 t5] (0, 0) _ rfl ((hfin _ _ (by omega)).trans hSP.new) Try.underlying43 rfl (by kernel_rfl), ?_⟩
    refine ⟨_, _, rfl, ?_, ?_⟩
    · have hm := Kd.M_step m3 (fun k hk _ => hSP.old k hk.2)
      refine kT.M_mono (fun _ _ => trivial) (m_own hm (grownBy_putObj' _ D (.deferred none)) (fun r e => by cases e; exact ⟨_, hK2, rfl⟩))
    · exact (hSP.below _ _ (hsz ▸ hB) (by omega)).trans (belowK_b (w := w) (Nat.le_refl _) _ D _ _ (by omega) hK2 rfl rfl)
  case stop =>
    rintro D c pre W _ _ h _
    exact h.elim
end Go.Proofs.YtlifdpfhepamfaaTl
