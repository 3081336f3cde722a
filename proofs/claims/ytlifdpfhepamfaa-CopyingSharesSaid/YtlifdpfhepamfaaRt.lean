/- The reader of terms: boxes; Get. -/
import Derived.Test.YtlifdpfhepamfaaRd
namespace Go.Proofs.YtlifdpfhepamfaaRt
open Go.RowKit Go.Maps Go.Proofs.YtlifdpfhepamfaaW.PrintWords Go.Proofs.YtlifdpfhepamfaaW.PrintLast Go.Proofs.YtlifdpfhepamfaaW.PrintMore Go.Proofs.YtlifdpfhepamfaaMem Go.Proofs.YtlifdpfhepamfaaLeaf Go.Proofs.YtlifdpfhepamfaaBits Go.Proofs.Ytlifdpfhepamfaa.PHe Go.Proofs.YtlifdpfhepamfaaRow Go.Proofs.YtlifdpfhepamfaaAr Go.Proofs.YtlifdpfhepamfaaHp Go.Proofs.YtlifdpfhepamfaaHo Go.Proofs.YtlifdpfhepamfaaWd Go.Proofs.YtlifdpfhepamfaaRd Go.Proofs
set_option linter.unusedVariables false
set_option linter.unusedSimpArgs false
def z6 : Obj := .cells #[.int .i64 0, .bool false, .slice none 0 0, .string ⟨#[]⟩, .int .i64 0, .slice none 0 0] 43 (0, 0)
/-- A box of a kind with these words lies at a place. -/
def LiesBox (l : List Int) (at_ : Nat) (kind : Int) (ws : List Int) : Prop := ∃ rest, l.drop at_ = boxWs kind ws ++ rest
theorem LiesBox.head {l : List Int} {at_ : Nat} {kind : Int} {ws : List Int} (h : LiesBox l at_ kind ws) : at_ + 1 + ws.length ≤ l.length ∧ l.getD at_ 0 = headW kind ws.length ∧ (l.drop (at_ + 1)).take ws.length = ws := by
  obtain ⟨rest, h⟩ := h
  have h1 : (l.drop at_).length = ws.length + 1 + rest.length := by rw [h]; simp [boxWs]; omega
  rw [List.length_drop] at h1
  refine ⟨by omega, ?_, ?_⟩
  · have : (l.drop at_)[0]? = some (headW kind ws.length) := by rw [h]; rfl
    rw [List.getElem?_drop] at this
    rw [List.getD_eq_getElem?_getD, show at_ = at_ + 0 by omega, this]
    rfl
  · rw [← List.drop_drop, h]
    simp [boxWs]
theorem headOf_headW (kind : Int) (size : Nat) (hk : 0 ≤ kind ∧ kind < 16) : headOfI (headW kind size) = (kind, (size : Int), true) := by
  unfold headOfI headW
  rw [if_pos (by omega)]
  congr 1
  · omega
  · congr 1
    omega
theorem ptr_bd (tag : Int) (at_ : Nat) (ht : tag = 1 ∨ tag = 2) (ha : at_ ≤ 32768) : 0 ≤ ptrW tag at_ ∧ ptrW tag at_ < 18446744073709551616 ∧ ptrW tag at_ % 4 = tag ∧ atI (ptrW tag at_) = (at_ : Int) ∧ isCatchI (ptrW tag at_) = (0, false) := by
  unfold ptrW
  have h1 : (at_ * 4 + tag) % 4 = tag := by omega
  refine ⟨by omega, by omega, h1, ?_, ?_⟩
  · unfold atI
    rw [if_pos (by rw [h1]; exact ht)]
    omega
  · unfold isCatchI
    rw [if_neg (by omega)]
theorem good_box {l : List Int} {at_ : Nat} {kind : Int} {ws : List Int} (h : LiesBox l at_ kind ws) (hk : 1 ≤ kind ∧ kind ≤ 6) (hl : l.length ≤ 32768) : goodI l (ptrW 2 at_) = true := by
  obtain ⟨h1, h2, h3⟩ := h.head
  obtain ⟨_, _, p1, p2, _⟩ := ptr_bd 2 at_ (.inr rfl) (by omega)
  have hwa : wordA l (at_ : Int) = headW kind ws.length := by unfold wordA; rw [if_pos (by omega), Int.toNat_natCast, h2]
  have hex : extA l (at_ : Int) = 1 + ws.length := by
    unfold extA extW
    rw [if_pos (by omega), Int.toNat_natCast, h2]
    unfold headW
    rw [if_pos (show ((ws.length : Int) * 64 + kind * 4) % 4 = 0 by omega)]
    rw [show ((ws.length : Int) * 64 + kind * 4) / 64 = ws.length by omega, if_pos (by omega)]
  unfold goodI
  rw [p1, if_neg (by omega), if_neg (by omega), if_pos rfl, p2, hwa, headOf_headW kind _ (by omega), hex]
  simp
  omega
theorem mods_six {w W : World} {S : Nat → Prop} {g : Nat} {a b c d e f : Value} (h : Mods S w W) (hg : S g ∨ w.heap.size ≤ g) : Mods S w ((((((W.setCell ⟨g, 0, none⟩ a).setCell ⟨g, 1, none⟩ b).setCell ⟨g, 2, none⟩ c).setCell ⟨g, 3, none⟩ d).setCell ⟨g, 4, none⟩ e).setCell ⟨g, 5, none⟩ f) :=
  (((((h.setCell (p := ⟨g, 0, none⟩) hg _).setCell (p := ⟨g, 1, none⟩) hg _).setCell (p := ⟨g, 2, none⟩) hg _).setCell (p := ⟨g, 3, none⟩) hg _).setCell (p := ⟨g, 4, none⟩) hg _).setCell (p := ⟨g, 5, none⟩) hg _
/-- A term as a value. -/
def tv (a : Int) (b : Bool) (A : Option Addr) (n c : Nat) (s : ByteArray) (N : Int) (A' : Option Addr) (n' c' : Nat) : Value := .agg #[.int .i64 a, .bool b, .slice A n c, .string s, .int .i64 N, .slice A' n' c']
set_option maxHeartbeats 8000000 in
set_option maxRecDepth 100000 in
/-- Get, where the reader of the term answers a term: what holds of that term holds behind Get. -/
theorem get_ok (w : World) (h : Nat) (x : Int) (P : Value → World → Prop) (hP : ∀ V w1 w2, Mods (fun k => k = w.heap.size) w1 w2 → P V w1 → P V w2)
    (hT : ∀ W r, Below w.heap.size w W → r = w.heap.size + 1 → W.heap[r]? = some (rdB h 2000) → Calls Try.prog 94 #[.pointer (some ⟨r, 0, none⟩), .int .u64 x] W fun e w' => ∃ a b A n c s N A' n' c', e = .returned (.tuple #[tv a b A n c s N A' n' c', .bool true]) ∧ Mods (fun k => k = r) W w' ∧ P (tv a b A n c s N A' n' c') w') :
    Calls Try.prog 42 #[.pointer (some ⟨h, 0, none⟩), .int .u64 x] w fun e w' => ∃ V, e = .returned (.tuple #[V, .bool true]) ∧ Below w.heap.size w w' ∧ P V w' := by
  obtain ⟨W0, hW0⟩ : ∃ W0, w.alloc (.cells #[.int .i64 0, .bool false, .slice none 0 0, .string ⟨#[]⟩, .int .i64 0, .slice none 0 0] 43) = W0 := ⟨_, rfl⟩
  obtain ⟨gr, hgr⟩ : ∃ gr, w.heap.size = gr := ⟨_, rfl⟩
  have hr0 : W0.heap[gr]? = some z6 := by rw [← hW0, ← hgr]; exact heap_alloc_new _ _
  have hb0 : Below w.heap.size w W0 := by rw [← hW0]; exact below_alloc (Below.refl _ _) _
  have hs0 : W0.heap.size = gr + 1 := by rw [← hW0, ← hgr]; exact Array.size_push _
  obtain ⟨W1, hW1⟩ : ∃ W1, W0.alloc (.cells #[.pointer (some ⟨h, 0, none⟩), .int .i64 2000] 128) = W1 := ⟨_, rfl⟩
  obtain ⟨r, hr⟩ : ∃ r, gr + 1 = r := ⟨_, rfl⟩
  have hr1 : W1.heap[r]? = some (rdB h 2000) := by rw [← hW1, ← hr, ← hs0]; exact heap_alloc_new _ _
  have hb1 : Below w.heap.size w W1 := by rw [← hW1]; exact below_alloc hb0 _
  have hg1 : W1.heap[gr]? = some z6 := by rw [← hW1]; exact ((below_alloc (Below.refl W0.heap.size W0) _).block _ (blk_lt hr0)).trans hr0
  have HC := Aside0.mk (hT W1 r hb1 (by rw [hgr]; exact hr.symm) hr1)
  have HB1 := Aside0.mk hb1
  have HG1 := Aside0.mk hg1
  have hle : w.heap.size ≤ r := by omega
  have hne : gr ≠ r := by omega
  have HP := Aside0.mk hP
  rw [hgr] at HP
  clear hr0 hb0 hr1 hb1 hg1 hT hP
  go_enter Try.func42, Try.ntmps42
  go_wp2_with fail
  refine HC.out.mono ?_
  rintro e w2 ⟨ta, tb, tA, tn, tc, ts, tN, tA', tn', tc', rfl, hm, hp⟩
  have hg2 : w2.heap[gr]? = some z6 := hm.blk HG1.out hne
  obtain ⟨q, hq⟩ : ∃ q, w2.heap.size = q := ⟨_, rfl⟩
  obtain ⟨W3, hW3⟩ : ∃ W3, w2.alloc (.cells #[.int .i64 0, .bool false, .slice none 0 0, .string ⟨#[]⟩, .int .i64 0, .slice none 0 0] 43) = W3 := ⟨_, rfl⟩
  have hq3 : W3.heap[q]? = some z6 := by rw [← hW3, ← hq]; exact heap_alloc_new _ _
  have hb3 : Below w2.heap.size w2 W3 := by rw [← hW3]; exact below_alloc (Below.refl _ _) _
  have hg3 : W3.heap[gr]? = some z6 := (hb3.block _ (blk_lt hg2)).trans hg2
  have hgq : gr ≠ q := fun e => by have := blk_lt hg2; omega
  have hq3' : W3.heap[q]? = some (.cells #[.int .i64 0, .bool false, .slice none 0 0, .string ⟨#[]⟩, .int .i64 0, .slice none 0 0] 43 (0, 0)) := hq3
  have m5 := six_put (a' := .int .i64 ta) (b' := .bool tb) (c' := .slice tA tn tc) (d' := .string ts) (e' := .int .i64 tN) (f' := .slice tA' tn' tc') hq3'
  obtain ⟨p0, p1, p2, p3, p4, p5⟩ := six_cells hq3'
  obtain ⟨z0, z1, z2, z3, z4, z5⟩ := six_live hq3'
  obtain ⟨W6, hW6⟩ : ∃ W6, (((((W3.setCell ⟨q, 0, none⟩ (.int .i64 ta)).setCell ⟨q, 1, none⟩ (.bool tb)).setCell ⟨q, 2, none⟩ (.slice tA tn tc)).setCell ⟨q, 3, none⟩ (.string ts)).setCell ⟨q, 4, none⟩ (.int .i64 tN)).setCell ⟨q, 5, none⟩ (.slice tA' tn' tc') = W6 := ⟨_, rfl⟩
  rw [hW6] at m5
  obtain ⟨r0, r1, r2, r3, r4, r5⟩ := six_cells m5
  have hb6 : Below w2.heap.size w2 W6 := by rw [← hW6]; exact below_six hb3 (by omega)
  have hg6 : W6.heap[gr]? = some z6 := (hb6.block _ (blk_lt hg2)).trans hg2
  have hg6' : W6.heap[gr]? = some (.cells #[.int .i64 0, .bool false, .slice none 0 0, .string ⟨#[]⟩, .int .i64 0, .slice none 0 0] 43 (0, 0)) := hg6
  obtain ⟨s0, s1, s2, s3, s4, s5⟩ := six_cells hg6'
  obtain ⟨f0, f1, f2, f3, f4, f5⟩ := six_live hg6'
  have HG6 := Aside0.mk hg6
  have HB6 := Aside0.mk hb6
  have HM2 := Aside0.mk hm
  have HP2 := Aside0.mk hp
  clear hg2 hm hp hq3 hb3 hg3 hq3' m5 hg6 hg6' hb6
  unfold tv
  go_wp2_with fail
  refine bodyPost_ret (results_cell2 rfl _ _ gr 43 #[.int .i64 ta, .bool tb, .slice tA tn tc, .string ts, .int .i64 tN, .slice tA' tn' tc'] (0, 0) _ rfl (six_put HG6.out) Try.underlying43 rfl (by kernel_rfl)) rfl ?_
  have hm6 : Mods (fun k => k = r) W1 W6 := HM2.out.then_below HB6.out
  have hb7 : Below w.heap.size w W6 := below_mods HB1.out hm6 HB1.out.size (fun k hk => by omega)
  have hle0 : w.heap.size ≤ gr := by omega
  refine ⟨_, rfl, below_six hb7 hle0, HP.out _ _ _ (mods_six ((Mods.refl (fun k => k = gr) w2).then_below HB6.out) (.inl rfl)) HP2.out⟩
end Go.Proofs.YtlifdpfhepamfaaRt
