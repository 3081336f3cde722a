/- The program's stack and the document's, side by side: what each call leaves. -/
import Derived.Test.YthdmacdeefohkaaGu
import Derived.Test.YthdmacdeefohkaaGl
import Derived.Test.YthdmacdeefohkaaGm
import Derived.Test.YthdmacdeefohkaaGp
import Derived.Test.YthdmacdeefohkaaTm
namespace Go.Proofs.YthdmacdeefohkaaTwo
open Go.RowKit Go.Proofs.YthdmacdeefohkaaW.PrintWords Go.Proofs.YthdmacdeefohkaaW.PrintLast Go.Proofs.YthdmacdeefohkaaW.PrintMore Go.Proofs.YthdmacdeefohkaaMem Go.Proofs.YthdmacdeefohkaaRow Go.Proofs.YthdmacdeefohkaaRowK Go.Proofs.YthdmacdeefohkaaBits Go.Proofs.YthdmacdeefohkaaGs Go.Proofs
open Go.Proofs.YthdmacdeefohkaaStk (W64 Fr St SFoot backOf slotsOf slotOf setOf)
open Go.Proofs.YthdmacdeefohkaaStkT (ab ab_append ab_length backL slotsL slotL setYL setL sumL ab_back ab_slots ab_slot)
open Go.Proofs.YthdmacdeefohkaaStkB (flatL flatL_append flatL_length loadL loadL_length ab_flat ab_load)
open Go.Proofs.YthdmacdeefohkaaSRoots (OwnPost)
open Go.Proofs.YthdmacdeefohkaaPush (pushN)
open Go.Proofs.YthdmacdeefohkaaGm (trimL)
open Go.Proofs.YthdmacdeefohkaaGu (uL)
set_option linter.unusedVariables false
set_option linter.unusedSimpArgs false
/-- What frames hold. -/
abbrev FL := List (Int × List Int)
/-- Both stacks, which lie apart. -/
def Two (B : Nat) (w : World) (s g : Nat) (L M : FL) : Prop :=
  ∃ v fs u gs, St B w s v fs ∧ GS B w g u gs ∧ ab fs = L ∧ gab gs = M ∧ ∀ k, SFoot s v fs k → ¬ GFoot g u gs k
/-- The same, and a block that is neither's. -/
def TwoQ (B q : Nat) (o : Obj) (w : World) (s g : Nat) (L M : FL) : Prop :=
  ∃ v fs u gs, St B w s v fs ∧ GS B w g u gs ∧ ab fs = L ∧ gab gs = M ∧ (∀ k, SFoot s v fs k → ¬ GFoot g u gs k) ∧ w.heap[q]? = some o ∧ ¬ SFoot s v fs q ∧ ¬ GFoot g u gs q
section
variable {B q s g : Nat} {o : Obj} {w w' : World} {L M : FL}
theorem TwoQ.two (h : TwoQ B q o w s g L M) : Two B w s g L M := by
  obtain ⟨v, fs, u, gs, h1, h2, h3, h4, h5, _⟩ := h
  exact ⟨v, fs, u, gs, h1, h2, h3, h4, h5⟩
theorem Two.below (h : Two B w s g L M) (k : Below w.heap.size w w') : Two B w' s g L M := by
  obtain ⟨v, fs, u, gs, h1, h2, h3, h4, h5⟩ := h
  exact ⟨v, fs, u, gs, h1.below k, h2.below k, h3, h4, h5⟩
theorem TwoQ.below (h : TwoQ B q o w s g L M) (k : Below w.heap.size w w') : TwoQ B q o w' s g L M := by
  obtain ⟨v, fs, u, gs, h1, h2, h3, h4, h5, h6, h7⟩ := h
  exact ⟨v, fs, u, gs, h1.below k, h2.below k, h3, h4, h5, (Mods.of_below (fun _ => False) k).blk h6 id, h7⟩
theorem TwoQ.drew (h : TwoQ B q o w s g L M) : TwoQ B q o w.drew s g L M := h
theorem TwoQ.cells {v0 v1 v2 v3 v4 : Value} {t : TypeId} (h : TwoQ B q (.cells #[v0, v1, v2, v3, v4] t (0, 0)) w s g L M) : w.cell? ⟨q, 0, none⟩ = some v0 ∧ w.cell? ⟨q, 1, none⟩ = some v1 ∧ w.cell? ⟨q, 2, none⟩ = some v2 ∧ w.cell? ⟨q, 3, none⟩ = some v3 ∧ w.cell? ⟨q, 4, none⟩ = some v4 := by
  obtain ⟨v, fs, u, gs, _, _, _, _, _, h6, _⟩ := h
  exact ⟨(blk_cell h6 0).trans rfl, (blk_cell h6 1).trans rfl, (blk_cell h6 2).trans rfl, (blk_cell h6 3).trans rfl, (blk_cell h6 4).trans rfl⟩
theorem TwoQ.drewN (h : TwoQ B q o w s g L M) (n : Nat) : TwoQ B q o (w.drewN n) s g L M := h
theorem TwoQ.size (h : TwoQ B q o w s g L M) : B ≤ w.heap.size := by
  obtain ⟨v, fs, u, gs, h1, _⟩ := h
  exact h1.2.2.2.2.2.2
theorem Two.size (h : Two B w s g L M) : B ≤ w.heap.size := by
  obtain ⟨v, fs, u, gs, h1, _⟩ := h
  exact h1.2.2.2.2.2.2
/-- A block that is not there yet. -/
theorem Two.with_ (h : Two B w s g L M) (k : Below w.heap.size w w') (hq : w'.heap[w.heap.size]? = some o) : TwoQ B w.heap.size o w' s g L M := by
  obtain ⟨v, fs, u, gs, h1, h2, h3, h4, h5⟩ := h
  exact ⟨v, fs, u, gs, h1.below k, h2.below k, h3, h4, h5, hq, fun x => by have := (h1.foot_lt _ x).2; omega, fun x => by have := (h2.foot_lt _ x).2; omega⟩
theorem TwoQ.blk (h : TwoQ B q o w s g L M) : w.heap[q]? = some o := by
  obtain ⟨v, fs, u, gs, _, _, _, _, _, h6, _⟩ := h
  exact h6
theorem TwoQ.gcell (h : TwoQ B q o w s g L M) : ∃ A c, w.cell? ⟨g, 0, none⟩ = some (.slice A M.length c) := by
  obtain ⟨v, fs, u, gs, _, h2, _, h4, _⟩ := h
  obtain ⟨A, c, e, _⟩ := h2.2.2.1.form
  exact ⟨A, c, by rw [h2.c0, e, ← h4, gab_length]⟩
theorem TwoQ.len (h : TwoQ B q o w s g L M) : L.length ≤ 4000 ∧ M.length ≤ 4000 := by
  obtain ⟨v, fs, u, gs, h1, h2, rfl, rfl, _⟩ := h
  exact ⟨by rw [ab_length]; exact h1.2.2.2.2.2.1, by rw [gab_length]; exact h2.2.2.2.2.2.1⟩
/-- The program's stack was written to. -/
theorem put_p {v v' u : Value} {fs fs' : List Fr} {gs : List GF} (h1 : St B w s v fs) (h2 : GS B w g u gs) (h5 : ∀ k, SFoot s v fs k → ¬ GFoot g u gs k) (h6 : w.heap[q]? = some o) (h7 : ¬ SFoot s v fs q) (h8 : ¬ GFoot g u gs q)
    (h1' : St B w' s v' fs') (hf : ∀ k, SFoot s v' fs' k → SFoot s v fs k ∨ w.heap.size ≤ k) (hm : Mods (SFoot s v fs) w w') : TwoQ B q o w' s g (ab fs') (gab gs) ∧ Below B w w' :=
  ⟨⟨v', fs', u, gs, h1', h2.mods hm (fun i hi hn => h5 i hn hi), rfl, rfl, fun k hk hg => by
      rcases hf k hk with h | h
      · exact h5 k h hg
      · have := (h2.foot_lt k hg).2; omega, hm.blk h6 h7, fun hk => by
      rcases hf q hk with h | h
      · exact h7 h
      · have := blk_lt h6; omega, h8⟩, hm.below h1.2.2.2.2.2.2 (fun k hk => (h1.foot_lt k hk).1)⟩
/-- The document's stack was written to. -/
theorem put_d {v u u' : Value} {fs : List Fr} {gs gs' : List GF} (h1 : St B w s v fs) (h2 : GS B w g u gs) (h5 : ∀ k, SFoot s v fs k → ¬ GFoot g u gs k) (h6 : w.heap[q]? = some o) (h7 : ¬ SFoot s v fs q) (h8 : ¬ GFoot g u gs q)
    (h2' : GS B w' g u' gs') (hf : ∀ k, GFoot g u' gs' k → GFoot g u gs k ∨ w.heap.size ≤ k) (hm : Mods (GFoot g u gs) w w') : TwoQ B q o w' s g (ab fs) (gab gs') ∧ Below B w w' :=
  ⟨⟨v, fs, u', gs', h1.mods hm (fun i hi hn => h5 i hi hn), h2', rfl, rfl, fun k hk hg => by
      rcases hf k hg with h | h
      · exact h5 k hk h
      · have := (h1.foot_lt k hk).2; omega, hm.blk h6 h8, h7, fun hk => by
      rcases hf q hk with h | h
      · exact h8 h
      · have := blk_lt h6; omega⟩, hm.below h1.2.2.2.2.2.2 (fun k hk => (h2.foot_lt k hk).1)⟩
/-! ### the calls -/
theorem p_push (h : TwoQ B q o w s g L M) (hl : L.length < 4000) (back n : Int) : Calls Try.prog 16 #[.pointer (some ⟨s, 0, none⟩), .int .i64 back, .int .i64 n] w fun e w' => e = .returned (.bool true) ∧ TwoQ B q o w' s g (L ++ [(back, List.replicate (pushN n) 0)]) M ∧ Below B w w' := by
  obtain ⟨v, fs, u, gs, h1, h2, rfl, rfl, h5, h6, h7, h8⟩ := h
  rw [ab_length] at hl
  refine (Go.Proofs.YthdmacdeefohkaaPush.push_calls w B s v fs back n h1 hl).mono ?_
  rintro e w' ⟨rfl, v', h1', hm, hv⟩
  refine ⟨rfl, ?_⟩
  have := put_p h1 h2 h5 h6 h7 h8 h1' (fun k hk => by
    rcases hk with hk | hk | hk
    · exact .inl (.inl hk)
    · rcases hv with hv | ⟨b, hv, hb⟩
      · exact .inl (.inr (.inl (by rw [← hv]; exact hk)))
      · rw [hv] at hk; injection hk with hk; exact .inr (by omega)
    · rw [List.map_append, List.mem_append] at hk
      rcases hk with hk | hk
      · exact .inl (.inr (.inr hk))
      · simp at hk; exact .inr (by omega)) (hm.mono (fun k hk => hk.elim .inl (fun x => .inr (.inl x))))
  rw [ab_append] at this
  exact this
theorem d_push (h : TwoQ B q o w s g L M) (hl : M.length < 4000) (back n : Int) : Calls Try.prog 54 #[.pointer (some ⟨g, 0, none⟩), .int .i64 back, .int .i64 n] w fun e w' => e = .returned (.bool true) ∧ TwoQ B q o w' s g L (M ++ [(back, List.replicate (pushN n) 0)]) ∧ Below B w w' := by
  obtain ⟨v, fs, u, gs, h1, h2, rfl, rfl, h5, h6, h7, h8⟩ := h
  rw [gab_length] at hl
  refine (Go.Proofs.YthdmacdeefohkaaGp.push_calls w B g u gs back n h2 hl).mono ?_
  rintro e w' ⟨rfl, v', h2', hm, hv⟩
  refine ⟨rfl, ?_⟩
  have := put_d h1 h2 h5 h6 h7 h8 h2' (fun k hk => by
    rcases hk with hk | hk | hk
    · exact .inl (.inl hk)
    · rcases hv with hv | ⟨b, hv, hb⟩
      · exact .inl (.inr (.inl (by rw [← hv]; exact hk)))
      · rw [hv] at hk; injection hk with hk; exact .inr (by omega)
    · rw [gbs_append, List.mem_append] at hk
      rcases hk with hk | hk
      · exact .inl (.inr (.inr hk))
      · simp [gbs, Go.Proofs.YthdmacdeefohkaaGp.newF, Value.ownBlock] at hk; exact .inr (by omega)) (hm.mono (fun k hk => hk.elim .inl (fun x => .inr (.inl x))))
  rw [gab_append] at this
  exact this
theorem map_dropLast {α β : Type} (f : α → β) (l : List α) : (l.dropLast).map f = (l.map f).dropLast := by simp [List.map_dropLast]
theorem p_pop (h : TwoQ B q o w s g L M) : Calls Try.prog 23 #[.pointer (some ⟨s, 0, none⟩)] w fun e w' => e = .returned (.int .i64 (backL L)) ∧ TwoQ B q o w' s g L.dropLast M ∧ Below B w w' := by
  obtain ⟨v, fs, u, gs, h1, h2, rfl, rfl, h5, h6, h7, h8⟩ := h
  refine (Go.Proofs.YthdmacdeefohkaaStk.pop_calls w B s v fs h1).mono ?_
  rintro e w' ⟨rfl, h1', hm⟩
  refine ⟨by rw [ab_back], ?_⟩
  have := put_p h1 h2 h5 h6 h7 h8 h1' (fun k hk => by
    rcases hk with hk | hk | hk
    · exact .inl (.inl hk)
    · rw [Go.Proofs.YthdmacdeefohkaaStk.popV_own] at hk; exact .inl (.inr (.inl hk))
    · rw [map_dropLast] at hk; exact .inl (.inr (.inr ((List.dropLast_sublist _).subset hk)))) (hm.mono (fun k hk => .inl hk))
  rw [show ab fs.dropLast = (ab fs).dropLast from map_dropLast _ _] at this
  exact this
theorem gbs_take (gs : List GF) (m k : Nat) (h : k ∈ gbs (gs.take m)) : k ∈ gbs gs := by
  obtain ⟨f, hf, e⟩ := mem_gbs.1 h
  exact mem_gbs.2 ⟨f, List.mem_of_mem_take hf, e⟩
theorem d_pop (h : TwoQ B q o w s g L M) : Calls Try.prog 55 #[.pointer (some ⟨g, 0, none⟩)] w fun e w' => e = .returned (.int .i64 (backL M)) ∧ TwoQ B q o w' s g L M.dropLast ∧ Below B w w' := by
  obtain ⟨v, fs, u, gs, h1, h2, rfl, rfl, h5, h6, h7, h8⟩ := h
  refine (Go.Proofs.YthdmacdeefohkaaGt.pop_calls w B g u gs h2).mono ?_
  rintro e w' ⟨rfl, v', h2', hv, hm⟩
  refine ⟨rfl, ?_⟩
  have := put_d h1 h2 h5 h6 h7 h8 h2' (fun k hk => by
    rcases hk with hk | hk | hk
    · exact .inl (.inl hk)
    · rw [hv] at hk; exact .inl (.inr (.inl hk))
    · rw [List.dropLast_eq_take] at hk; exact .inl (.inr (.inr (gbs_take _ _ _ hk)))) (hm.mono (fun k hk => .inl hk))
  rw [show gab gs.dropLast = (gab gs).dropLast from map_dropLast _ _] at this
  exact this
theorem ab_trim (fs : List Fr) (n : Int) : ab (Go.Proofs.YthdmacdeefohkaaTm.trimOf fs n) = trimL (ab fs) n := by
  rcases Go.Proofs.YthdmacdeefohkaaStk.nil_or_last fs with rfl | ⟨fs, f, rfl⟩
  · rfl
  · rw [Go.Proofs.YthdmacdeefohkaaTm.trimOf_last, ab_append, ab_append]
    simp [ab, trimL, Go.Proofs.YthdmacdeefohkaaTm.trimF]
theorem trimOf_b (fs : List Fr) (n : Int) : (Go.Proofs.YthdmacdeefohkaaTm.trimOf fs n).map Fr.b = fs.map Fr.b := by
  rcases Go.Proofs.YthdmacdeefohkaaStk.nil_or_last fs with rfl | ⟨fs, f, rfl⟩
  · rfl
  · rw [Go.Proofs.YthdmacdeefohkaaTm.trimOf_last]; simp [Go.Proofs.YthdmacdeefohkaaTm.trimF]
theorem p_trim (h : TwoQ B q o w s g L M) (n : Int) : Calls Try.prog 56 #[.pointer (some ⟨s, 0, none⟩), .int .i64 n] w fun e w' => e = .returned (.tuple #[]) ∧ TwoQ B q o w' s g (trimL L n) M ∧ Below B w w' := by
  obtain ⟨v, fs, u, gs, h1, h2, rfl, rfl, h5, h6, h7, h8⟩ := h
  refine (Go.Proofs.YthdmacdeefohkaaTm.trim_calls w B s v fs n h1).mono ?_
  rintro e w' ⟨rfl, h1', hm⟩
  refine ⟨rfl, ?_⟩
  have := put_p h1 h2 h5 h6 h7 h8 h1' (fun k hk => by
    rcases hk with hk | hk | hk
    · exact .inl (.inl hk)
    · exact .inl (.inr (.inl hk))
    · rw [trimOf_b] at hk; exact .inl (.inr (.inr hk))) (hm.mono (fun k hk => .inr (.inl hk)))
  rw [ab_trim] at this
  exact this
theorem d_trim (h : TwoQ B q o w s g L M) (n : Int) : Calls Try.prog 57 #[.pointer (some ⟨g, 0, none⟩), .int .i64 n] w fun e w' => e = .returned (.tuple #[]) ∧ TwoQ B q o w' s g L (trimL M n) ∧ Below B w w' := by
  obtain ⟨v, fs, u, gs, h1, h2, rfl, rfl, h5, h6, h7, h8⟩ := h
  refine (Go.Proofs.YthdmacdeefohkaaGm.trim_calls w B g u gs n h2).mono ?_
  rintro e w' ⟨rfl, gs', h2', hg, hb, hm⟩
  refine ⟨rfl, ?_⟩
  have := put_d h1 h2 h5 h6 h7 h8 h2' (fun k hk => by
    rcases hk with hk | hk | hk
    · exact .inl (.inl hk)
    · exact .inl (.inr (.inl hk))
    · exact (hb k hk).imp (fun x => .inr (.inr x)) id) (hm.mono (fun k hk => .inr (.inl hk)))
  rw [hg] at this
  exact this
theorem ab_set (fs : List Fr) (k x : Int) : ab (setOf fs k x) = setL (ab fs) k x := by
  rcases Go.Proofs.YthdmacdeefohkaaStk.nil_or_last fs with rfl | ⟨fs, f, rfl⟩
  · rfl
  · rw [Go.Proofs.YthdmacdeefohkaaStk.setOf_last, ab_append, ab_append]
    have : ab [Go.Proofs.YthdmacdeefohkaaStk.setY f k x] = [(f.back, setYL f.y k x)] := by
      unfold Go.Proofs.YthdmacdeefohkaaStk.setY setYL
      split <;> simp [ab]
    rw [this]
    show _ = setL (ab fs ++ [(f.back, f.y)]) k x
    rw [Go.Proofs.YthdmacdeefohkaaStkT.setL_last]
theorem p_set (h : TwoQ B q o w s g L M) (k x : Int) (x0 : 0 ≤ x) (x1 : x < 18446744073709551616) : Calls Try.prog 18 #[.pointer (some ⟨s, 0, none⟩), .int .i64 k, .int .u64 x] w fun e w' => e = .returned (.tuple #[]) ∧ TwoQ B q o w' s g (setL L k x) M ∧ Below B w w' := by
  obtain ⟨v, fs, u, gs, h1, h2, rfl, rfl, h5, h6, h7, h8⟩ := h
  refine (Go.Proofs.YthdmacdeefohkaaStk.set_calls w B s v fs k x h1 x0 x1).mono ?_
  rintro e w' ⟨rfl, h1', hm⟩
  refine ⟨rfl, ?_⟩
  have := put_p h1 h2 h5 h6 h7 h8 h1' (fun k hk => by
    rcases hk with hk | hk | hk
    · exact .inl (.inl hk)
    · exact .inl (.inr (.inl hk))
    · rw [Go.Proofs.YthdmacdeefohkaaStk.setOf_map_b] at hk; exact .inl (.inr (.inr hk))) (hm.mono (fun k hk => .inr (.inr hk)))
  rw [ab_set] at this
  exact this
theorem d_set (h : TwoQ B q o w s g L M) (k x : Int) (x0 : 0 ≤ x) (x1 : x < 18446744073709551616) : Calls Try.prog 61 #[.pointer (some ⟨g, 0, none⟩), .int .i64 k, .int .u64 x] w fun e w' => e = .returned (.tuple #[]) ∧ TwoQ B q o w' s g L (setL M k x) ∧ Below B w w' := by
  obtain ⟨v, fs, u, gs, h1, h2, rfl, rfl, h5, h6, h7, h8⟩ := h
  refine (Go.Proofs.YthdmacdeefohkaaGs.set_calls w B g u gs k x h2 x0 x1).mono ?_
  rintro e w' ⟨rfl, gs', h2', hg, hb, hm⟩
  refine ⟨rfl, ?_⟩
  have := put_d h1 h2 h5 h6 h7 h8 h2' (fun k hk => by
    rcases hk with hk | hk | hk
    · exact .inl (.inl hk)
    · exact .inl (.inr (.inl hk))
    · rw [hb] at hk; exact .inl (.inr (.inr hk))) (hm.mono (fun k hk => .inr (.inr hk)))
  rw [hg] at this
  exact this
theorem ysum_ab (fs : List Fr) : Go.Proofs.YthdmacdeefohkaaSWords.ysum fs = sumL (ab fs) := by simp [Go.Proofs.YthdmacdeefohkaaSWords.ysum, sumL, ab, List.map_map, Function.comp_def]
/-- What Load leaves. -/
def ldL (L : FL) (m : Nat) (xs : List Int) : FL := if m = sumL L then loadL L xs else L
theorem ldF_b (fs : List Fr) (m : Nat) (xs : List Int) : (if m = Go.Proofs.YthdmacdeefohkaaSWords.ysum fs then Go.Proofs.YthdmacdeefohkaaSLoad.loadF fs xs else fs).map Fr.b = fs.map Fr.b := by
  split
  · exact Go.Proofs.YthdmacdeefohkaaSLoad.loadF_b fs xs
  · rfl
theorem p_load {w1 : World} (h : TwoQ B q o w s g L M) (kb : Below w.heap.size w w1) (A : Option Addr) (m c : Nat) (xs : List Int) (hr : ReadsInt w1 .u64 A m xs) (hmc : m ≤ c) (hA : ∀ ad, A = some ad → w.heap.size ≤ ad.block) (hx : W64 xs) :
    Calls Try.prog 27 #[.pointer (some ⟨s, 0, none⟩), .slice A m c] w1 fun e w' => e = .returned (.bool (decide (m = sumL L))) ∧ TwoQ B q o w' s g (ldL L m xs) M ∧ Below B w1 w' := by
  have h' := h.below kb
  obtain ⟨v, fs, u, gs, h1, h2, rfl, rfl, h5, h6, h7, h8⟩ := h
  have h1b := h1.below kb
  have h2b := h2.below kb
  have h6b := (Mods.of_below (fun _ => False) kb).blk h6 id
  refine (Go.Proofs.YthdmacdeefohkaaSLoad.load_calls w1 B s v fs A m c xs h1b hr hmc (fun ad e hk => by have := hA ad e; have := (h1.foot_lt _ (.inr (.inr hk))).2; omega) hx).mono ?_
  rintro e w' ⟨rfl, h1', hm⟩
  refine ⟨by rw [ysum_ab], ?_⟩
  have := put_p h1b h2b h5 h6b h7 h8 h1' (fun k hk => by
    rcases hk with hk | hk | hk
    · exact .inl (.inl hk)
    · exact .inl (.inr (.inl hk))
    · rw [ldF_b] at hk; exact .inl (.inr (.inr hk))) (hm.mono (fun k hk => .inr (.inr hk)))
  have e : ab (if m = Go.Proofs.YthdmacdeefohkaaSWords.ysum fs then Go.Proofs.YthdmacdeefohkaaSLoad.loadF fs xs else fs) = ldL (ab fs) m xs := by
    rw [ysum_ab]; unfold ldL
    split
    · exact ab_load fs xs
    · rfl
  rw [e] at this
  exact this
theorem d_load (h : TwoQ B q o w s g L M) (A : Option Addr) (m c : Nat) (xs : List Int) (hr : ReadsInt w .u64 A m xs) (hm1 : m ≤ 100000) (hA : ∀ ad, A = some ad → 0 < m → ad.block < B) (hx : W64 xs) :
    Calls Try.prog 59 #[.pointer (some ⟨g, 0, none⟩), .slice A m c] w fun e w' => e = .returned (.bool (decide (m = sumL M))) ∧ TwoQ B q o w' s g L (ldL M m xs) ∧ Below B w w' := by
  obtain ⟨v, fs, u, gs, h1, h2, rfl, rfl, h5, h6, h7, h8⟩ := h
  refine (Go.Proofs.YthdmacdeefohkaaGl.load_calls w B g u gs A m c xs h2 hr hm1 (fun ad e h0 hk => by have := hA ad e h0; have := (h2.foot_lt _ (.inr (.inr hk))).1; omega) hx).mono ?_
  rintro e w' ⟨rfl, gs', h2', hg, hb, hm⟩
  refine ⟨rfl, ?_⟩
  have := put_d h1 h2 h5 h6 h7 h8 h2' (fun k hk => by
    rcases hk with hk | hk | hk
    · exact .inl (.inl hk)
    · exact .inl (.inr (.inl hk))
    · rw [hb] at hk; exact .inl (.inr (.inr hk))) (hm.mono (fun k hk => .inr (.inr hk)))
  rw [hg] at this
  exact this
theorem unwA_ab (fs : List Fr) : ∀ m, Go.Proofs.YthdmacdeefohkaaSUnwind.unwA fs m = uL (ab fs) m := by
  intro m
  induction m with
  | zero => rfl
  | succ m ih =>
    simp only [Go.Proofs.YthdmacdeefohkaaSUnwind.unwA, uL]
    have e : (fs[m]?).map Fr.y = ((ab fs)[m]?).map Prod.snd := by simp [ab, Option.map_map, Function.comp_def]
    rw [e, ih]
    generalize List.find? Go.Proofs.YthdmacdeefohkaaSUnwind.isC _ = r
    cases r <;> rfl
/-- What Unwind answers, and leaves. -/
def uA (L : FL) : Int := match uL L L.length with | none => 0 | some (_, x) => x / 16
def uB (L : FL) : Int := match uL L L.length with | none => 0 | some (i, _) => (L.length : Int) - 1 - (i : Int)
def uC (L : FL) : Bool := match uL L L.length with | none => false | some _ => true
def uD (L : FL) : FL := match uL L L.length with | none => L | some (i, _) => L.take (i + 1)
theorem p_unwind (h : TwoQ B q o w s g L M) : Calls Try.prog 37 #[.pointer (some ⟨s, 0, none⟩)] w fun e w' => e = .returned (.tuple #[.int .i64 (uA L), .int .i64 (uB L), .bool (uC L)]) ∧ TwoQ B q o w' s g (uD L) M ∧ Below B w w' := by
  have h0 := h
  obtain ⟨v, fs, u, gs, h1, h2, rfl, rfl, h5, h6, h7, h8⟩ := h
  refine (Go.Proofs.YthdmacdeefohkaaSUnwind.unwind_calls w B s v fs h1).mono ?_
  intro e w' hp
  unfold Go.Proofs.YthdmacdeefohkaaSUnwind.UnwPost at hp
  unfold uA uB uC uD
  rw [unwA_ab] at hp
  rw [ab_length]
  rcases hu : uL (ab fs) fs.length with _ | ⟨i, x⟩
  · rw [hu] at hp
    obtain ⟨rfl, nd, rfl⟩ := hp
    exact ⟨rfl, h0.drewN nd, pw_below_drewN (Below.refl _ _) _⟩
  · rw [hu] at hp
    obtain ⟨rfl, v', h1', hv, hm⟩ := hp
    refine ⟨rfl, ?_⟩
    have := put_p h1 h2 h5 h6 h7 h8 h1' (fun k hk => by
      rcases hk with hk | hk | hk
      · exact .inl (.inl hk)
      · rw [hv] at hk; exact .inl (.inr (.inl hk))
      · rw [List.map_take] at hk; exact .inl (.inr (.inr (List.mem_of_mem_take hk)))) (hm.mono (fun k hk => .inl hk))
    rw [show ab (fs.take (i + 1)) = (ab fs).take (i + 1) from List.map_take] at this
    exact this
theorem d_unwind (h : TwoQ B q o w s g L M) : Calls Try.prog 60 #[.pointer (some ⟨g, 0, none⟩)] w fun e w' => e = .returned (.tuple #[.int .i64 (uA M), .int .i64 (uB M), .bool (uC M)]) ∧ TwoQ B q o w' s g L (uD M) ∧ Below B w w' := by
  have h0 := h
  obtain ⟨v, fs, u, gs, h1, h2, rfl, rfl, h5, h6, h7, h8⟩ := h
  refine (Go.Proofs.YthdmacdeefohkaaGu.unwind_calls w B g u gs h2).mono ?_
  intro e w' hp
  unfold Go.Proofs.YthdmacdeefohkaaGu.UPost at hp
  unfold uA uB uC uD
  rw [gab_length]
  rcases hu : uL (gab gs) gs.length with _ | ⟨i, x⟩
  · rw [hu] at hp
    obtain ⟨rfl, nd, rfl⟩ := hp
    exact ⟨rfl, h0.drewN nd, pw_below_drewN (Below.refl _ _) _⟩
  · rw [hu] at hp
    obtain ⟨rfl, v', h2', hv, hm⟩ := hp
    refine ⟨rfl, ?_⟩
    have := put_d h1 h2 h5 h6 h7 h8 h2' (fun k hk => by
      rcases hk with hk | hk | hk
      · exact .inl (.inl hk)
      · rw [hv] at hk; exact .inl (.inr (.inl hk))
      · exact .inl (.inr (.inr (gbs_take _ _ _ hk)))) (hm.mono (fun k hk => .inl hk))
    rw [show gab (gs.take (i + 1)) = (gab gs).take (i + 1) from List.map_take] at this
    exact this
/-! ### what asks -/
theorem p_slot (h : TwoQ B q o w s g L M) (k : Int) : Calls Try.prog 22 #[.pointer (some ⟨s, 0, none⟩), .int .i64 k] w fun e w' => e = .returned (.int .u64 (slotL L k)) ∧ Below w.heap.size w w' := by
  obtain ⟨v, fs, u, gs, h1, h2, rfl, rfl, _⟩ := h
  refine (Go.Proofs.YthdmacdeefohkaaStk.slot_calls w B s v fs k h1).mono ?_
  rintro e w' ⟨rfl, hb⟩
  exact ⟨by rw [ab_slot], hb⟩
theorem p_slots (h : TwoQ B q o w s g L M) : Calls Try.prog 17 #[.pointer (some ⟨s, 0, none⟩)] w fun e w' => e = .returned (.int .i64 (slotsL L)) ∧ Below w.heap.size w w' := by
  obtain ⟨v, fs, u, gs, h1, h2, rfl, rfl, _⟩ := h
  refine (Go.Proofs.YthdmacdeefohkaaStk.slots_calls w B s v fs h1).mono ?_
  rintro e w' ⟨rfl, hb⟩
  exact ⟨by rw [ab_slots], hb⟩
theorem p_back (h : TwoQ B q o w s g L M) : Calls Try.prog 21 #[.pointer (some ⟨s, 0, none⟩)] w fun e w' => e = .returned (.int .i64 (backL L)) ∧ Below w.heap.size w w' := by
  obtain ⟨v, fs, u, gs, h1, h2, rfl, rfl, _⟩ := h
  refine (Go.Proofs.YthdmacdeefohkaaStk.back_calls w B s v fs h1).mono ?_
  rintro e w' ⟨rfl, hb⟩
  exact ⟨by rw [ab_back], hb⟩
theorem p_depth (h : TwoQ B q o w s g L M) : Calls Try.prog 20 #[.pointer (some ⟨s, 0, none⟩)] w fun e w' => e = .returned (.int .i64 (L.length : Nat)) ∧ Below w.heap.size w w' := by
  obtain ⟨v, fs, u, gs, h1, h2, rfl, rfl, _⟩ := h
  refine (Go.Proofs.YthdmacdeefohkaaStk.depth_calls w B s v fs h1).mono ?_
  rintro e w' ⟨rfl, nd, rfl⟩
  exact ⟨by rw [ab_length], pw_below_drewN (Below.refl _ _) _⟩
theorem p_words (h : TwoQ B q o w s g L M) : Calls Try.prog 24 #[.pointer (some ⟨s, 0, none⟩)] w fun e w' => e = .returned (.int .i64 ((L.length + sumL L : Nat) : Int)) ∧ Below w.heap.size w w' := by
  obtain ⟨v, fs, u, gs, h1, h2, rfl, rfl, _⟩ := h
  refine (Go.Proofs.YthdmacdeefohkaaSWords.words_calls w B s v fs h1).mono ?_
  rintro e w' ⟨rfl, hb⟩
  exact ⟨by rw [ab_length, ysum_ab], hb⟩
theorem p_roots (h : TwoQ B q o w s g L M) : Calls Try.prog 26 #[.pointer (some ⟨s, 0, none⟩)] w (OwnPost w.heap.size w (flatL L)) := by
  obtain ⟨v, fs, u, gs, h1, h2, rfl, rfl, _⟩ := h
  rw [← ab_flat]
  exact Go.Proofs.YthdmacdeefohkaaSRoots.roots_calls w B s v fs h1
theorem d_slot (h : TwoQ B q o w s g L M) (k : Int) : Calls Try.prog 62 #[.pointer (some ⟨g, 0, none⟩), .int .i64 k] w fun e w' => e = .returned (.int .u64 (slotL M k)) ∧ ∃ nd, w' = w.drewN nd := by
  obtain ⟨v, fs, u, gs, h1, h2, rfl, rfl, _⟩ := h
  exact Go.Proofs.YthdmacdeefohkaaGs.slot_calls w B g u gs k h2
theorem d_slots (h : TwoQ B q o w s g L M) : Calls Try.prog 63 #[.pointer (some ⟨g, 0, none⟩)] w fun e w' => e = .returned (.int .i64 (slotsL M)) ∧ ∃ nd, w' = w.drewN nd := by
  obtain ⟨v, fs, u, gs, h1, h2, rfl, rfl, _⟩ := h
  exact Go.Proofs.YthdmacdeefohkaaGs.slots_calls w B g u gs h2
theorem d_back (h : TwoQ B q o w s g L M) : Calls Try.prog 64 #[.pointer (some ⟨g, 0, none⟩)] w fun e w' => e = .returned (.int .i64 (backL M)) ∧ ∃ nd, w' = w.drewN nd := by
  obtain ⟨v, fs, u, gs, h1, h2, rfl, rfl, _⟩ := h
  exact Go.Proofs.YthdmacdeefohkaaGs.back_calls w B g u gs h2
theorem d_words (h : TwoQ B q o w s g L M) : Calls Try.prog 65 #[.pointer (some ⟨g, 0, none⟩)] w fun e w' => e = .returned (.int .i64 ((M.length + sumL M : Nat) : Int)) ∧ Below w.heap.size w w' := by
  obtain ⟨v, fs, u, gs, h1, h2, rfl, rfl, _⟩ := h
  refine (Go.Proofs.YthdmacdeefohkaaGt.words_calls w B g u gs h2).mono ?_
  rintro e w' ⟨rfl, hb⟩
  exact ⟨by rw [gab_length, flatL_length], hb⟩
theorem d_roots (h : TwoQ B q o w s g L M) : Calls Try.prog 66 #[.pointer (some ⟨g, 0, none⟩)] w (OwnPost w.heap.size w (flatL M)) := by
  obtain ⟨v, fs, u, gs, h1, h2, rfl, rfl, _⟩ := h
  exact Go.Proofs.YthdmacdeefohkaaGt.roots_calls w B g u gs h2
end
end Go.Proofs.YthdmacdeefohkaaTwo
