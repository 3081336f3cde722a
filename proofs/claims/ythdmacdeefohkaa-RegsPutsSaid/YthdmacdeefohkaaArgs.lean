/- The makers of arguments; a source's term with what it leads to; registers told by rows of terms. -/
import Derived.Test.YthdmacdeefohkaaNew
namespace Go.Proofs.YthdmacdeefohkaaArgs
open Go.RowKit Go.Proofs.YthdmacdeefohkaaW.PrintWords Go.Proofs.YthdmacdeefohkaaW.PrintLast Go.Proofs.YthdmacdeefohkaaW.PrintMore Go.Proofs.YthdmacdeefohkaaMem Go.Proofs.YthdmacdeefohkaaLeaf Go.Proofs.YthdmacdeefohkaaBits Go.Proofs.Ythdmacdeefohkaa.PMa Go.Proofs.YthdmacdeefohkaaMTerm Go.Proofs.YthdmacdeefohkaaMVal Go.Proofs.YthdmacdeefohkaaIntT Go.Proofs.YthdmacdeefohkaaRegs Go.Proofs.YthdmacdeefohkaaStands Go.Proofs.YthdmacdeefohkaaSource Go.Proofs.YthdmacdeefohkaaNew Go.Proofs
set_option linter.unusedVariables false
set_option linter.unusedSimpArgs false
theorem three_put {w : World} {g : Nat} {a b c a' b' c' : Value} {t : TypeId} (h : w.heap[g]? = some (.cells #[a, b, c] t (0, 0))) :
    (((w.setCell ⟨g, 0, none⟩ a').setCell ⟨g, 1, none⟩ b').setCell ⟨g, 2, none⟩ c').heap[g]? = some (.cells #[a', b', c'] t (0, 0)) :=
  blk_put (cs := #[a', b', c]) (blk_put (cs := #[a', b, c]) (blk_put (cs := #[a, b, c]) h 0 _ rfl) 1 _ rfl) 2 _ rfl
set_option maxHeartbeats 4000000 in
set_option maxRecDepth 100000 in
theorem arg_X (w : World) (N : Int) : Calls Try.prog 48 #[.int .i64 N] w fun e w' => e = .returned (.agg #[.int .i64 3, .int .i64 N, .slice none 0 0]) ∧ Below w.heap.size w w' := by
  have hu77 := Try.underlying77
  obtain ⟨W, hW⟩ : ∃ W, w.alloc (.cells #[.int .i64 0, .int .i64 0, .slice none 0 0] 77) = W := ⟨_, rfl⟩
  obtain ⟨g, hg⟩ : ∃ g, w.heap.size = g := ⟨_, rfl⟩
  have hblk : W.heap[g]? = some (.cells #[.int .i64 0, .int .i64 0, .slice none 0 0] 77 (0, 0)) := by rw [← hW, ← hg]; exact heap_alloc_new _ _
  have hb : Below w.heap.size w W := by rw [← hW]; exact below_alloc (Below.refl _ _) _
  have b0 := blk_cell hblk 0
  have b1 := blk_cell hblk 1
  have b2 := blk_cell hblk 2
  have f0 := blk_frozen hblk 0
  have f1 := blk_frozen hblk 1
  have f2 := blk_frozen hblk 2
  simp only [List.getElem?_toArray, List.getElem?_cons_zero, List.getElem?_cons_succ] at b0 b1 b2
  have HK := Aside0.mk hblk
  have HB := Aside0.mk hb
  have HG := Aside0.mk (Nat.le_of_eq hg)
  clear hblk hb
  go_enter Try.func48, Try.ntmps48
  go_wp2_with fail
  refine bodyPost_ret (results_cell_row rfl _ _ g 77 #[.int .i64 3, .int .i64 N, .slice none 0 0] (0, 0) _ rfl (three_put HK.out) Try.underlying77 rfl (by kernel_rfl)) rfl ?_
  exact ⟨rfl, ((HB.out.setCell (by exact HG.out) _).setCell (by exact HG.out) _).setCell (by exact HG.out) _⟩
set_option maxHeartbeats 4000000 in
set_option maxRecDepth 100000 in
theorem arg_L (w : World) (N : Int) : Calls Try.prog 49 #[.int .i64 N] w fun e w' => e = .returned (.agg #[.int .i64 6, .int .i64 N, .slice none 0 0]) ∧ Below w.heap.size w w' := by
  have hu77 := Try.underlying77
  obtain ⟨W, hW⟩ : ∃ W, w.alloc (.cells #[.int .i64 0, .int .i64 0, .slice none 0 0] 77) = W := ⟨_, rfl⟩
  obtain ⟨g, hg⟩ : ∃ g, w.heap.size = g := ⟨_, rfl⟩
  have hblk : W.heap[g]? = some (.cells #[.int .i64 0, .int .i64 0, .slice none 0 0] 77 (0, 0)) := by rw [← hW, ← hg]; exact heap_alloc_new _ _
  have hb : Below w.heap.size w W := by rw [← hW]; exact below_alloc (Below.refl _ _) _
  have b0 := blk_cell hblk 0
  have b1 := blk_cell hblk 1
  have b2 := blk_cell hblk 2
  have f0 := blk_frozen hblk 0
  have f1 := blk_frozen hblk 1
  have f2 := blk_frozen hblk 2
  simp only [List.getElem?_toArray, List.getElem?_cons_zero, List.getElem?_cons_succ] at b0 b1 b2
  have HK := Aside0.mk hblk
  have HB := Aside0.mk hb
  have HG := Aside0.mk (Nat.le_of_eq hg)
  clear hblk hb
  go_enter Try.func49, Try.ntmps49
  go_wp2_with fail
  refine bodyPost_ret (results_cell_row rfl _ _ g 77 #[.int .i64 6, .int .i64 N, .slice none 0 0] (0, 0) _ rfl (three_put HK.out) Try.underlying77 rfl (by kernel_rfl)) rfl ?_
  exact ⟨rfl, ((HB.out.setCell (by exact HG.out) _).setCell (by exact HG.out) _).setCell (by exact HG.out) _⟩
set_option maxHeartbeats 4000000 in
set_option maxRecDepth 100000 in
theorem arg_Y (w : World) (N : Int) : Calls Try.prog 50 #[.int .i64 N] w fun e w' => e = .returned (.agg #[.int .i64 4, .int .i64 N, .slice none 0 0]) ∧ Below w.heap.size w w' := by
  have hu77 := Try.underlying77
  obtain ⟨W, hW⟩ : ∃ W, w.alloc (.cells #[.int .i64 0, .int .i64 0, .slice none 0 0] 77) = W := ⟨_, rfl⟩
  obtain ⟨g, hg⟩ : ∃ g, w.heap.size = g := ⟨_, rfl⟩
  have hblk : W.heap[g]? = some (.cells #[.int .i64 0, .int .i64 0, .slice none 0 0] 77 (0, 0)) := by rw [← hW, ← hg]; exact heap_alloc_new _ _
  have hb : Below w.heap.size w W := by rw [← hW]; exact below_alloc (Below.refl _ _) _
  have b0 := blk_cell hblk 0
  have b1 := blk_cell hblk 1
  have b2 := blk_cell hblk 2
  have f0 := blk_frozen hblk 0
  have f1 := blk_frozen hblk 1
  have f2 := blk_frozen hblk 2
  simp only [List.getElem?_toArray, List.getElem?_cons_zero, List.getElem?_cons_succ] at b0 b1 b2
  have HK := Aside0.mk hblk
  have HB := Aside0.mk hb
  have HG := Aside0.mk (Nat.le_of_eq hg)
  clear hblk hb
  go_enter Try.func50, Try.ntmps50
  go_wp2_with fail
  refine bodyPost_ret (results_cell_row rfl _ _ g 77 #[.int .i64 4, .int .i64 N, .slice none 0 0] (0, 0) _ rfl (three_put HK.out) Try.underlying77 rfl (by kernel_rfl)) rfl ?_
  exact ⟨rfl, ((HB.out.setCell (by exact HG.out) _).setCell (by exact HG.out) _).setCell (by exact HG.out) _⟩
set_option maxHeartbeats 4000000 in
set_option maxRecDepth 100000 in
theorem arg_I (w : World) (N : Int) : Calls Try.prog 51 #[.int .i64 N] w fun e w' => e = .returned (.agg #[.int .i64 1, .int .i64 N, .slice none 0 0]) ∧ Below w.heap.size w w' := by
  have hu77 := Try.underlying77
  obtain ⟨W, hW⟩ : ∃ W, w.alloc (.cells #[.int .i64 0, .int .i64 0, .slice none 0 0] 77) = W := ⟨_, rfl⟩
  obtain ⟨g, hg⟩ : ∃ g, w.heap.size = g := ⟨_, rfl⟩
  have hblk : W.heap[g]? = some (.cells #[.int .i64 0, .int .i64 0, .slice none 0 0] 77 (0, 0)) := by rw [← hW, ← hg]; exact heap_alloc_new _ _
  have hb : Below w.heap.size w W := by rw [← hW]; exact below_alloc (Below.refl _ _) _
  have b0 := blk_cell hblk 0
  have b1 := blk_cell hblk 1
  have b2 := blk_cell hblk 2
  have f0 := blk_frozen hblk 0
  have f1 := blk_frozen hblk 1
  have f2 := blk_frozen hblk 2
  simp only [List.getElem?_toArray, List.getElem?_cons_zero, List.getElem?_cons_succ] at b0 b1 b2
  have HK := Aside0.mk hblk
  have HB := Aside0.mk hb
  have HG := Aside0.mk (Nat.le_of_eq hg)
  clear hblk hb
  go_enter Try.func51, Try.ntmps51
  go_wp2_with fail
  refine bodyPost_ret (results_cell_row rfl _ _ g 77 #[.int .i64 1, .int .i64 N, .slice none 0 0] (0, 0) _ rfl (three_put HK.out) Try.underlying77 rfl (by kernel_rfl)) rfl ?_
  exact ⟨rfl, ((HB.out.setCell (by exact HG.out) _).setCell (by exact HG.out) _).setCell (by exact HG.out) _⟩
set_option maxHeartbeats 4000000 in
set_option maxRecDepth 100000 in
theorem arg_A (w : World) (N : Int) : Calls Try.prog 52 #[.int .i64 N] w fun e w' => e = .returned (.agg #[.int .i64 2, .int .i64 N, .slice none 0 0]) ∧ Below w.heap.size w w' := by
  have hu77 := Try.underlying77
  obtain ⟨W, hW⟩ : ∃ W, w.alloc (.cells #[.int .i64 0, .int .i64 0, .slice none 0 0] 77) = W := ⟨_, rfl⟩
  obtain ⟨g, hg⟩ : ∃ g, w.heap.size = g := ⟨_, rfl⟩
  have hblk : W.heap[g]? = some (.cells #[.int .i64 0, .int .i64 0, .slice none 0 0] 77 (0, 0)) := by rw [← hW, ← hg]; exact heap_alloc_new _ _
  have hb : Below w.heap.size w W := by rw [← hW]; exact below_alloc (Below.refl _ _) _
  have b0 := blk_cell hblk 0
  have b1 := blk_cell hblk 1
  have b2 := blk_cell hblk 2
  have f0 := blk_frozen hblk 0
  have f1 := blk_frozen hblk 1
  have f2 := blk_frozen hblk 2
  simp only [List.getElem?_toArray, List.getElem?_cons_zero, List.getElem?_cons_succ] at b0 b1 b2
  have HK := Aside0.mk hblk
  have HB := Aside0.mk hb
  have HG := Aside0.mk (Nat.le_of_eq hg)
  clear hblk hb
  go_enter Try.func52, Try.ntmps52
  go_wp2_with fail
  refine bodyPost_ret (results_cell_row rfl _ _ g 77 #[.int .i64 2, .int .i64 N, .slice none 0 0] (0, 0) _ rfl (three_put HK.out) Try.underlying77 rfl (by kernel_rfl)) rfl ?_
  exact ⟨rfl, ((HB.out.setCell (by exact HG.out) _).setCell (by exact HG.out) _).setCell (by exact HG.out) _⟩
theorem getD_out {α : Type} (xs : List α) (i : Nat) (z : α) (h : xs.length ≤ i) : xs.getD i z = z := by rw [List.getD_eq_getElem?_getD, List.getElem?_eq_none h]; rfl
theorem lies_z (w : World) : Lies w z45 none 0 none 0 := ⟨Kd.C_nil _ _, Nat.le_refl _, Kd.C_nil _ _, Nat.le_refl _⟩
/-- What a term's rows are, to be told of: stays below; a term of nothing has none. -/
structure Sticks (L : World → S45 → Option Addr → Nat → Option Addr → Nat → Prop) : Prop where
  below : ∀ W W' x a b c d, L W x a b c d → Below W.heap.size W W' → L W' x a b c d
  nil : ∀ W k s, L W ⟨k, ⟨false, []⟩, s, 0, []⟩ none 0 none 0
theorem sticks_lies : Sticks Lies := ⟨fun _ _ _ _ _ _ _ h hb => h.below hb, fun _ _ _ => ⟨Kd.C_nil _ _, Nat.le_refl _, Kd.C_nil _ _, Nat.le_refl _⟩⟩
/-- No kids. -/
def kNil : Kd (List S45) where
  sz := 1
  E := []
  K := fun _ l cs => l = [] ∧ cs = [.slice none 0 0]
  M := fun _ _ _ l cs => l = [] ∧ cs = [.slice none 0 0]
  K_len := fun h => by rw [h.2]; rfl
  K_one := fun h u hu => by rw [h.2] at hu; rw [List.mem_singleton.1 hu]; rfl
  K_below := fun _ h => h
  K_of_M := fun h => h
  M_mono := fun _ h => h
  M_bound := fun h => h
  M_move := fun _ h => h
  M_lower := fun _ h => h
/-- Flat terms. -/
def kF : Kd S45 := Kd.iso (Kd.pair (Kd.int .i64) (Kd.pair k42 (Kd.pair Kd.string (Kd.pair (Kd.int .i64) kNil)))) (fun x : S45 => (x.f0, x.f1, x.f2, x.f3, x.f4))
theorem kF_open {w : World} {base : Nat} {ok : Nat → Prop} {x : S45} {cs : List Value} (h : kF.M w base ok x cs) : ∃ v2, cs = [.int .i64 x.f0, .bool x.f1.f0, v2, .string x.f2, .int .i64 x.f3, .slice none 0 0] ∧ (Kd.int .u32).R 123 w base ok v2 x.f1.f1 ∧ x.f4 = [] := by
  obtain ⟨_, _, rfl, rfl, ⟨_, _, rfl, s1, ⟨_, _, rfl, rfl, ⟨_, _, rfl, rfl, ⟨h4, rfl⟩⟩⟩⟩⟩ := h
  obtain ⟨v2, rfl, g2⟩ := k42_openM s1
  exact ⟨v2, rfl, g2, h4⟩
theorem kF_mk {w : World} {base : Nat} {ok : Nat → Prop} (x : S45) {v2 : Value} (g2 : (Kd.int .u32).R 123 w base ok v2 x.f1.f1) (h4 : x.f4 = []) : kF.M w base ok x [.int .i64 x.f0, .bool x.f1.f0, v2, .string x.f2, .int .i64 x.f3, .slice none 0 0] :=
  ⟨[.int .i64 x.f0], [.bool x.f1.f0, v2, .string x.f2, .int .i64 x.f3, .slice none 0 0], rfl, rfl, ⟨[.bool x.f1.f0, v2], [.string x.f2, .int .i64 x.f3, .slice none 0 0], rfl, k42_mkM w base ok x.f1 g2, ⟨[.string x.f2], [.int .i64 x.f3, .slice none 0 0], rfl, rfl, ⟨[.int .i64 x.f3], [.slice none 0 0], rfl, rfl, ⟨h4, rfl⟩⟩⟩⟩⟩
/-- A flat term's rows, made in this call: their blocks are told by their types. -/
def LiesF (W : World) (x : S45) (A2 : Option Addr) (c2 : Nat) (A5 : Option Addr) (c5 : Nat) : Prop :=
  Kd.R (Kd.int .u32) 123 W 0 (fun _ => True) (.slice A2 x.f1.f1.length c2) x.f1.f1 ∧ x.f4 = [] ∧ A5 = none ∧ c5 = 0
theorem LiesF.lies {W : World} {x : S45} {A2 : Option Addr} {c2 : Nat} {A5 : Option Addr} {c5 : Nat} (h : LiesF W x A2 c2 A5 c5) : Lies W x A2 c2 A5 c5 := by
  obtain ⟨h1, h2, rfl, rfl⟩ := h
  have := Kd.R_reads' h1
  exact ⟨this.2.2, this.2.1, by rw [h2]; exact Kd.C_nil _ _, by rw [h2]; exact Nat.le_refl _⟩
theorem sticks_liesF : Sticks LiesF := ⟨fun _ _ _ _ _ _ _ h hb => ⟨Kd.R_below h.1 hb, h.2⟩, fun _ _ _ => ⟨Kd.R_nil _ _ _ _ _, rfl, rfl, rfl⟩⟩
theorem LiesF.below {W W' : World} {x : S45} {A2 : Option Addr} {c2 : Nat} {A5 : Option Addr} {c5 : Nat} (h : LiesF W x A2 c2 A5 c5) (hb : Below W.heap.size W W') : LiesF W' x A2 c2 A5 c5 := sticks_liesF.below _ _ _ _ _ _ _ h hb
/-- A store into a block of another type. -/
theorem LiesF.set_ {W : World} {x : S45} {A2 : Option Addr} {c2 : Nat} {A5 : Option Addr} {c5 : Nat} (h : LiesF W x A2 c2 A5 c5) {p : Addr} {t : TypeId} {cs : Array Value} (hg : W.heap[p.block]? = some (.cells cs t (0, 0))) (ht : t ≠ 123) (u : Value) : LiesF (W.setCell p u) x A2 c2 A5 c5 := by
  have e2 : ∀ q, q ∈ 123 :: (Kd.int .u32).E → q ≠ t := by
    intro q hq
    have : q = 123 := by simpa [Kd.int, Kd.scalar] using hq
    subst this
    exact fun e => ht e.symm
  exact ⟨Kd.R_mono (Kd.R_far (Kd.R_types h.1 hg e2) (fun _ hk => hk.2) u) (fun _ _ => trivial), h.2⟩
theorem LiesF.six {W : World} {g : Nat} {cs : Array Value} {x : S45} {A2 : Option Addr} {c2 : Nat} {A5 : Option Addr} {c5 : Nat} (h : LiesF W x A2 c2 A5 c5) (hg : W.heap[g]? = some (.cells cs 45 (0, 0))) (v0 v1 v2 v3 v4 v5 : Value) :
    LiesF ((((((W.setCell ⟨g, 0, none⟩ v0).setCell ⟨g, 1, none⟩ v1).setCell ⟨g, 2, none⟩ v2).setCell ⟨g, 3, none⟩ v3).setCell ⟨g, 4, none⟩ v4).setCell ⟨g, 5, none⟩ v5) x A2 c2 A5 c5 :=
  ⟨Kd.R_mono (R_six h.1 hg (by decide)) (fun _ _ => trivial), h.2⟩
theorem liesF_of {W : World} {base : Nat} {ok : Nat → Prop} {x : S45} {cs : List Value} (h : kF.M W base ok x cs) : ∃ A2 c2 A5 c5, cs = [.int .i64 x.f0, .bool x.f1.f0, .slice A2 x.f1.f1.length c2, .string x.f2, .int .i64 x.f3, .slice A5 x.f4.length c5] ∧ LiesF W x A2 c2 A5 c5 := by
  obtain ⟨v2, rfl, h2, h4⟩ := kF_open h
  obtain ⟨A2, c2, rfl⟩ := Kd.R_slice h2
  exact ⟨A2, c2, none, 0, by rw [h4]; rfl, Kd.R_mono (Kd.R_lower h2 (Nat.zero_le _)) (fun _ _ => trivial), h4, rfl, rfl⟩
/-- What is known of a row of flat terms that was made. -/
theorem row_cells {w : World} {B : Nat} {ok : Nat → Prop} {A : Option Addr} {c : Nat} {xs : List S45} (h : Kd.R kF 45 w B ok (.slice A xs.length c) xs) : ∃ inner, Reps (kF.M w B (fun k => ok k ∧ some k ≠ (Value.slice A xs.length c).ownBlock)) 6 xs inner ∧ (0 < xs.length → ∃ ad, A = some ad ∧ ad.block < w.heap.size ∧ ∀ j u, inner[j]? = some u → w.cell? (ad.add j) = some u) := by
  obtain ⟨_, inner, ho, hr⟩ := h
  refine ⟨inner, hr, fun h0 => ?_⟩
  rcases ho.2 with ⟨_, h1⟩ | ⟨g, cap, cur, hv, _, hg, _, _, _, ht⟩
  · omega
  · injection hv with h1 _ _
    subst h1
    refine ⟨_, rfl, blk_lt hg, fun j u hu => ?_⟩
    rw [add_plain, blk_cell hg, ← Array.getElem?_toList]
    rw [← ht, List.getElem?_take] at hu
    split at hu
    · exact hu
    · cases hu
/-- What lies at a place of a row that was made. -/
theorem at_rowF {w : World} {B : Nat} {ok : Nat → Prop} {A : Option Addr} {c : Nat} {xs : List S45} (h : Kd.R kF 45 w B ok (.slice A xs.length c) xs) (i : Nat) : ∃ A2 c2 A5 c5, At w A xs.length (i : Int) (xs.getD i z45) A2 c2 A5 c5 ∧ LiesF w (xs.getD i z45) A2 c2 A5 c5 := by
  obtain ⟨inner, hr, hc⟩ := row_cells h
  by_cases hi : i < xs.length
  · have hx : xs.getD i z45 = xs[i] := by rw [List.getD_eq_getElem?_getD, List.getElem?_eq_getElem hi]; rfl
    have hM := hr.2 i xs[i] (List.getElem?_eq_getElem hi)
    obtain ⟨A2, c2, A5, c5, e, hl⟩ := liesF_of hM
    rw [hx]
    have hc2 : ∀ j u, [Value.int .i64 xs[i].f0, .bool xs[i].f1.f0, .slice A2 xs[i].f1.f1.length c2, .string xs[i].f2, .int .i64 xs[i].f3, .slice A5 xs[i].f4.length c5][j]? = some u → inner[i * 6 + j]? = some u := by
      intro j u hu
      rw [← e] at hu
      have h6 : j < 6 := by
        by_cases h6 : j < 6
        · exact h6
        · rw [List.getElem?_take, if_neg h6] at hu
          cases hu
      rw [List.getElem?_take, if_pos h6, List.getElem?_drop] at hu
      exact hu
    obtain ⟨ad, rfl, _, hcell⟩ := hc (by omega)
    refine ⟨A2, c2, A5, c5, .inl ⟨i, ad, rfl, hi, rfl, ?_, ?_, ?_, ?_, ?_, ?_⟩, hl⟩
    · exact hcell _ _ (hc2 0 _ rfl)
    · rw [← add_field _ _ 1 (by omega)]; exact hcell _ _ (hc2 1 _ rfl)
    · rw [← add_field _ _ 2 (by omega)]; exact hcell _ _ (hc2 2 _ rfl)
    · rw [← add_field _ _ 3 (by omega)]; exact hcell _ _ (hc2 3 _ rfl)
    · rw [← add_field _ _ 4 (by omega)]; exact hcell _ _ (hc2 4 _ rfl)
    · rw [← add_field _ _ 5 (by omega)]; exact hcell _ _ (hc2 5 _ rfl)
  · refine ⟨none, 0, none, 0, .inr ⟨.inr ⟨by omega, by omega⟩, ?_, rfl, rfl, rfl, rfl⟩, ?_⟩
    · rw [getD_out _ _ _ (by omega)]
    · rw [getD_out _ _ _ (by omega)]; exact sticks_liesF.nil w 0 ⟨#[]⟩
/-- What lies at a place of a row that is read. -/
theorem at_row {w : World} {A : Option Addr} {n : Nat} {xs : List S45} (h : Kd.C k45 w A n xs) (i : Nat) : ∃ A2 c2 A5 c5, At w A n (i : Int) (xs.getD i z45) A2 c2 A5 c5 ∧ Lies w (xs.getD i z45) A2 c2 A5 c5 := by
  have hl : xs.length = n := h.1
  by_cases hi : i < n
  · obtain ⟨ad, A2, c2, A5, c5, e, h0, h1, h2, h3, h4, h5, l2, g2, l5, g5⟩ := at_T45 h (i : Int) (by omega) (by omega)
    exact ⟨A2, c2, A5, c5, .inl ⟨i, ad, rfl, hi, e, h0, h1, h2, h3, h4, h5⟩, g2, l2, g5, l5⟩
  · refine ⟨none, 0, none, 0, .inr ⟨.inr ⟨by omega, by omega⟩, ?_, rfl, rfl, rfl, rfl⟩, ?_⟩
    · rw [getD_out _ _ _ (by omega)]
    · rw [getD_out _ _ _ (by omega)]; exact lies_z w
theorem regs0_zero (b N : Int) (i : Nat) (hi : i < 16) (j : Nat) (hj : j < 6) : (regs0 b N)[i * 6 + j]? = zs6[j]? := by
  have hj' : j = 0 ∨ j = 1 ∨ j = 2 ∨ j = 3 ∨ j = 4 ∨ j = 5 := by omega
  have hi' : i = 0 ∨ i = 1 ∨ i = 2 ∨ i = 3 ∨ i = 4 ∨ i = 5 ∨ i = 6 ∨ i = 7 ∨ i = 8 ∨ i = 9 ∨ i = 10 ∨ i = 11 ∨ i = 12 ∨ i = 13 ∨ i = 14 ∨ i = 15 := by omega
  rcases hj' with rfl | rfl | rfl | rfl | rfl | rfl <;> rcases hi' with rfl | rfl | rfl | rfl | rfl | rfl | rfl | rfl | rfl | rfl | rfl | rfl | rfl | rfl | rfl | rfl <;> rfl
theorem splice_in {α : Type} (L cs : List α) (j : Nat) (hj : j < cs.length) : (splice L 0 cs)[j]? = cs[j]? := by
  simp only [splice, List.take_zero, List.nil_append]
  rw [List.getElem?_append_left hj]
theorem splice_out {α : Type} (L cs : List α) (j : Nat) (hj : cs.length ≤ j) : (splice L 0 cs)[j]? = L[j]? := by
  simp only [splice, List.take_zero, List.nil_append]
  rw [List.getElem?_append_right hj, List.getElem?_drop]
  congr 1
  omega
/-- The registers' cells say these terms, then none. -/
def SaysX (L : World → S45 → Option Addr → Nat → Option Addr → Nat → Prop) (w : World) (cs : Array Value) (xs : List S45) : Prop := ∀ i : Nat, ∃ A2 c2 A5 c5, L w (xs.getD i z45) A2 c2 A5 c5 ∧ ∀ W g, W.heap[g]? = some (.cells cs 70 (0, 0)) → At W (some ⟨g, 0, none⟩) 16 (i : Int) (xs.getD i z45) A2 c2 A5 c5
theorem SaysX.below {L : World → S45 → Option Addr → Nat → Option Addr → Nat → Prop} (hL : Sticks L) {w W : World} {cs : Array Value} {xs : List S45} (h : SaysX L w cs xs) (hb : Below w.heap.size w W) : SaysX L W cs xs := by
  intro i
  obtain ⟨A2, c2, A5, c5, h1, h2⟩ := h i
  exact ⟨A2, c2, A5, c5, hL.below _ _ _ _ _ _ _ h1 hb, h2⟩
theorem says_new {L : World → S45 → Option Addr → Nat → Option Addr → Nat → Prop} (hL : Sticks L) {w : World} {Rr : S45 → List Value → Prop} (hRr : ∀ x cs, Rr x cs → ∃ A2 c2 A5 c5, cs = [.int .i64 x.f0, .bool x.f1.f0, .slice A2 x.f1.f1.length c2, .string x.f2, .int .i64 x.f3, .slice A5 x.f4.length c5] ∧ L w x A2 c2 A5 c5) {inner : List Value} {xs : List S45} (h : Reps Rr 6 xs inner) (hl : xs.length ≤ 16) (b N : Int) (cs : Array Value) (hcs : ∀ j, j < 96 → cs[j]? = (splice (regs0 b N) 0 inner)[j]?) : SaysX L w cs xs := by
  intro i
  have hil : inner.length = xs.length * 6 := h.1
  by_cases hi : i < xs.length
  · have hx : xs.getD i z45 = xs[i] := by rw [List.getD_eq_getElem?_getD, List.getElem?_eq_getElem hi]; rfl
    have hK := h.2 i xs[i] (List.getElem?_eq_getElem hi)
    obtain ⟨A2, c2, A5, c5, e, hLx⟩ := hRr _ _ hK
    have hc : ∀ j, j < 6 → cs[i * 6 + j]? = [Value.int .i64 xs[i].f0, .bool xs[i].f1.f0, .slice A2 xs[i].f1.f1.length c2, .string xs[i].f2, .int .i64 xs[i].f3, .slice A5 xs[i].f4.length c5][j]? := by
      intro j hj
      rw [hcs _ (by omega), splice_in _ _ _ (by omega), ← e, List.getElem?_take, if_pos hj, List.getElem?_drop]
    rw [hx]
    refine ⟨A2, c2, A5, c5, hLx, fun W g hg => .inl ⟨i, ⟨g, 0, none⟩, rfl, by omega, rfl, ?_⟩⟩
    have ha : ((⟨g, 0, none⟩ : Addr).add (i * 6)) = ⟨g, i * 6, none⟩ := by rw [add_plain]
    rw [ha]
    exact ⟨(blk_cell hg _).trans (hc 0 (by omega)), (blk_cell hg _).trans (hc 1 (by omega)), (blk_cell hg _).trans (hc 2 (by omega)), (blk_cell hg _).trans (hc 3 (by omega)), (blk_cell hg _).trans (hc 4 (by omega)), (blk_cell hg _).trans (hc 5 (by omega))⟩
  · have hx : xs.getD i z45 = z45 := getD_out _ _ _ (by omega)
    rw [hx]
    refine ⟨none, 0, none, 0, hL.nil w 0 ⟨#[]⟩, fun W g hg => ?_⟩
    by_cases h16 : i < 16
    · have hc : ∀ j, j < 6 → cs[i * 6 + j]? = zs6[j]? := by
        intro j hj
        rw [hcs _ (by omega), splice_out _ _ _ (by omega), regs0_zero b N i h16 j hj]
      refine .inl ⟨i, ⟨g, 0, none⟩, rfl, h16, rfl, ?_⟩
      have ha : ((⟨g, 0, none⟩ : Addr).add (i * 6)) = ⟨g, i * 6, none⟩ := by rw [add_plain]
      rw [ha]
      exact ⟨(blk_cell hg _).trans (hc 0 (by omega)), (blk_cell hg _).trans (hc 1 (by omega)), (blk_cell hg _).trans (hc 2 (by omega)), (blk_cell hg _).trans (hc 3 (by omega)), (blk_cell hg _).trans (hc 4 (by omega)), (blk_cell hg _).trans (hc 5 (by omega))⟩
    · exact .inr ⟨.inr ⟨by omega, by omega⟩, rfl, rfl, rfl, rfl, rfl⟩
/-- What Source returns: a term with what it leads to; whether it is one. -/
def Srcd (L : World → S45 → Option Addr → Nat → Option Addr → Nat → Prop) (y : S45) (b : Bool) (w : World) (e : Ending) (w' : World) : Prop := ∃ A2 c2 A5 c5, e = .returned (.tuple #[.agg (cellsT y A2 c2 A5 c5), .bool b]) ∧ L w' y A2 c2 A5 c5 ∧ Below w.heap.size w w'
def srcT (x : S45) : S45 := if plainB x then x else z45
theorem src_of {L : World → S45 → Option Addr → Nat → Option Addr → Nat → Prop} (hL : Sticks L) (w : World) (cs ms ar : Array Value) (hcs : cs.size = 101) (hms : ms.size = 6) (har : ar.size = 3) (x : S45) (A2 : Option Addr) (c2 : Nat) (A5 : Option Addr) (c5 : Nat) (hl : L w x A2 c2 A5 c5)
    (HS : ∀ W, Below w.heap.size w W → Calls Try.prog 98 #[.agg cs, .agg ms, .agg ar] W fun e w' => e = .returned (.agg (cellsT x A2 c2 A5 c5)) ∧ Below W.heap.size W w') :
    Calls Try.prog 47 #[.agg cs, .agg ms, .agg ar] w (Srcd L (srcT x) (plainB x) w) := by
  refine (source_calls w cs ms ar hcs hms har x (fun _ a b c d => a = A2 ∧ b = c2 ∧ c = A5 ∧ d = c5) ⟨fun _ _ _ _ _ _ h _ => h, fun _ _ _ _ _ _ _ _ _ _ _ _ _ _ h => h⟩ (fun W hW => (HS W hW).mono (fun e w' h => ⟨A2, c2, A5, c5, h.1, ⟨rfl, rfl, rfl, rfl⟩, h.2⟩))).mono ?_
  rintro e w' ⟨_, _, _, _, he, ⟨rfl, rfl, rfl, rfl⟩, hb⟩
  subst he
  unfold Srcd srcT
  cases plainB x with
  | true => exact ⟨_, _, _, _, rfl, hL.below _ _ _ _ _ _ _ hl hb, hb⟩
  | false => exact ⟨none, 0, none, 0, rfl, hL.nil _ 0 ⟨#[]⟩, hb⟩
theorem src_int (w : World) (cs ms : Array Value) (ra : Value) (hcs : cs.size = 101) (hms : ms.size = 6) (N : Int) (h0 : -9223372036854775808 ≤ N) (h1 : N < 9223372036854775808) :
    Calls Try.prog 47 #[.agg cs, .agg ms, .agg #[.int .i64 1, .int .i64 N, ra]] w (Srcd LiesF (intT N) true w) := by
  have hp : plainB (intT N) = true := rfl
  refine (source_calls w cs ms #[.int .i64 1, .int .i64 N, ra] hcs hms rfl (intT N) (fun W a b c d => Kd.R (Kd.int .u32) 123 W 0 (fun _ => True) (.slice a (absL N).length b) (absL N) ∧ c = none ∧ d = 0) ⟨fun _ _ _ _ _ _ h hb => ⟨Kd.R_below h.1 hb, h.2⟩, ?_⟩ ?_).mono ?_
  · intro W g cs a b c d v0 v1 v2 v3 v4 v5 hg h
    exact ⟨Kd.R_mono (R_six h.1 hg (by decide)) (fun _ _ => trivial), h.2⟩
  · intro W hW
    refine (stands_I W cs ms N ra h0 h1).mono ?_
    rintro e w' ⟨A2, c2, rfl, hR, hb⟩
    exact ⟨A2, c2, none, 0, rfl, ⟨Kd.R_lower hR (Nat.zero_le _), rfl, rfl⟩, hb⟩
  · rintro e w' ⟨A2, c2, A5, c5, rfl, ⟨hR, rfl, rfl⟩, hb⟩
    rw [hp, if_pos rfl]
    exact ⟨A2, c2, none, 0, rfl, ⟨hR, rfl, rfl, rfl⟩, hb⟩
/-- A register. -/
theorem src_X {L : World → S45 → Option Addr → Nat → Option Addr → Nat → Prop} (hL : Sticks L) (w : World) (cs ms : Array Value) (ra : Value) (hcs : cs.size = 101) (hms : ms.size = 6) (xs : List S45) (h : SaysX L w cs xs) (i : Nat) :
    Calls Try.prog 47 #[.agg cs, .agg ms, .agg #[.int .i64 3, .int .i64 (i : Int), ra]] w (Srcd L (srcT (xs.getD i z45)) (plainB (xs.getD i z45)) w) := by
  obtain ⟨A2, c2, A5, c5, hl, hA⟩ := h i
  exact src_of hL w cs ms _ hcs hms rfl _ A2 c2 A5 c5 hl (fun W hW => stands_X W cs ms _ ra _ _ _ _ _ (fun W' g hg _ => hA W' g hg))
/-- A literal. -/
theorem src_L {L : World → S45 → Option Addr → Nat → Option Addr → Nat → Prop} (hL : Sticks L) (w : World) (cs ms : Array Value) (ra : Value) (hcs : cs.size = 101) (hms : ms.size = 6) (Lt : Option Addr) (ln lc : Nat) (h4 : ms[4]? = some (.slice Lt ln lc)) (hln : ln ≤ 1000000) (x : S45) (i : Nat) (h : ∃ A2 c2 A5 c5, At w Lt ln (i : Int) x A2 c2 A5 c5 ∧ L w x A2 c2 A5 c5) :
    Calls Try.prog 47 #[.agg cs, .agg ms, .agg #[.int .i64 6, .int .i64 (i : Int), ra]] w (Srcd L (srcT x) (plainB x) w) := by
  obtain ⟨A2, c2, A5, c5, hA, hl⟩ := h
  exact src_of hL w cs ms _ hcs hms rfl _ A2 c2 A5 c5 hl (fun W hW => stands_L W cs ms _ ra _ _ _ _ _ Lt ln lc h4 hln (hA.below hW))
/-- A slot. -/
theorem src_Y {L : World → S45 → Option Addr → Nat → Option Addr → Nat → Prop} (hL : Sticks L) (w : World) (cs ms : Array Value) (ra : Value) (hcs : cs.size = 101) (hms : ms.size = 6) (F0_ : Option Addr) (fl fc : Nat) (fr : Bool) (Y : Option Addr) (yl yc : Nat) (q0 : cs[96]? = some (.slice F0_ fl fc)) (q1 : cs[97]? = some (.bool fr)) (hfl : fl ≤ 1000000) (hyl : yl ≤ 1000000)
    (hr : ((fr = false ∨ fl = 0) ∧ Value.slice Y yl yc = .slice none 0 0) ∨ (fr = true ∧ 0 < fl ∧ ∃ f, F0_ = some f ∧ w.cell? ⟨(f.add ((fl - 1) * 2)).block, (f.add ((fl - 1) * 2)).off + 1, none⟩ = some (.slice Y yl yc))) (x : S45) (i : Nat) (h : ∃ A2 c2 A5 c5, At w Y yl (i : Int) x A2 c2 A5 c5 ∧ L w x A2 c2 A5 c5) :
    Calls Try.prog 47 #[.agg cs, .agg ms, .agg #[.int .i64 4, .int .i64 (i : Int), ra]] w (Srcd L (srcT x) (plainB x) w) := by
  obtain ⟨A2, c2, A5, c5, hA, hl⟩ := h
  refine src_of hL w cs ms _ hcs hms rfl _ A2 c2 A5 c5 hl (fun W hW => stands_Y W cs ms _ ra _ _ _ _ _ hcs F0_ fl fc fr Y yl yc q0 q1 hfl hyl ?_ (hA.below hW))
  rcases hr with h | ⟨h1, h2, f, h3, h4⟩
  · exact .inl h
  · exact .inr ⟨h1, h2, f, h3, pw_cell_below hW h4⟩
/-- Atoms: none, one of the module's, nothing. -/
def atomT (ss : List ByteArray) (r : Nat) : S45 := if r = 0 then ⟨3, ⟨false, []⟩, ⟨#[]⟩, 0, []⟩ else if r ≤ ss.length then ⟨2, ⟨false, []⟩, ss.getD (r - 1) ⟨#[]⟩, 0, []⟩ else z45
theorem src_A {L : World → S45 → Option Addr → Nat → Option Addr → Nat → Prop} (hL : Sticks L) (w : World) (cs ms : Array Value) (ra : Value) (hcs : cs.size = 101) (hms : ms.size = 6) (ad : Addr) (an ac : Nat) (h0 : ms[0]? = some (.slice (some ad) an ac)) (han : an ≤ 1000000) (ss : List ByteArray) (hss : ss.length = an) (hs : ∀ m s, ss[m]? = some s → w.cell? (ad.add m) = some (.string s)) (r : Nat) :
    Calls Try.prog 47 #[.agg cs, .agg ms, .agg #[.int .i64 2, .int .i64 (r : Int), ra]] w (Srcd L (atomT ss r) (decide (r ≤ ss.length)) w) := by
  unfold atomT
  by_cases hr : r = 0
  · subst hr
    exact src_of hL w cs ms _ hcs hms rfl ⟨3, ⟨false, []⟩, ⟨#[]⟩, 0, []⟩ none 0 none 0 (hL.nil w 3 ⟨#[]⟩) (fun W hW => stands_A0 W cs ms _ ra rfl)
  · rw [if_neg hr]
    by_cases hle : r ≤ ss.length
    · rw [if_pos hle, decide_eq_true hle]
      obtain ⟨m, rfl⟩ : ∃ m, r = m + 1 := ⟨r - 1, by omega⟩
      have hm : ss[m]? = some (ss.getD m ⟨#[]⟩) := by rw [List.getD_eq_getElem?_getD, List.getElem?_eq_getElem (by omega)]; rfl
      exact src_of hL w cs ms _ hcs hms rfl ⟨2, ⟨false, []⟩, ss.getD m ⟨#[]⟩, 0, []⟩ none 0 none 0 (hL.nil w 2 _) (fun W hW => stands_A W cs ms _ ra m rfl _ ad an ac h0 (by omega) han (pw_cell_below hW (hs m _ hm)))
    · rw [if_neg hle, decide_eq_false hle]
      exact src_of hL w cs ms _ hcs hms rfl z45 none 0 none 0 (hL.nil w 0 ⟨#[]⟩) (fun W hW => stands_Ano W cs ms _ ra (some ad) an ac h0 (.inr (by omega)))
section
variable {P : Program}
theorem exec_load_row {o : Oper} {a : Act} {w : World} (ty : TypeId) (x : Operand) (ho : o.op = .load ty x) (g : Nat) (hx : a.eval x = .pointer (some ⟨g, 0, none⟩)) (t : TypeId) (cs : Array Value) (fr : Nat × Nat) (d : TypeDesc) (hg : w.heap[g]? = some (.cells cs t fr))
    (hu : P.underlying ty = some d) (hd : (match d with | .struct _ | .array _ _ => true | _ => false) = true) (hi : (P.info? ty).map (·.size) = some cs.size) : (execOp a.eval o).run P w = .ok (.value (.agg cs)) w := by
  unfold execOp
  simp only [ho, hx, Instr.loadAt, Instr.sureAddr, Sem.run_bind, Sem.run_pure, Result.andThen_ok, run_loadVar_row w g t ty cs fr d hg hu hd hi]
end
end Go.Proofs.YthdmacdeefohkaaArgs
