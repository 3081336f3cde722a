/- The reader of terms: a binary in a box. -/
import Derived.Test.YtlifdpfhepamfaaRd
namespace Go.Proofs.YtlifdpfhepamfaaRt
open Go.RowKit Go.Maps Go.Proofs.YtlifdpfhepamfaaW.PrintWords Go.Proofs.YtlifdpfhepamfaaW.PrintLast Go.Proofs.YtlifdpfhepamfaaW.PrintMore Go.Proofs.YtlifdpfhepamfaaMem Go.Proofs.YtlifdpfhepamfaaLeaf Go.Proofs.YtlifdpfhepamfaaBits Go.Proofs.Ytlifdpfhepamfaa.PHe Go.Proofs.YtlifdpfhepamfaaRow Go.Proofs.YtlifdpfhepamfaaAr Go.Proofs.YtlifdpfhepamfaaHp Go.Proofs.YtlifdpfhepamfaaHo Go.Proofs.YtlifdpfhepamfaaWd Go.Proofs.YtlifdpfhepamfaaHb Go.Proofs.YtlifdpfhepamfaaRd Go.Proofs
set_option linter.unusedVariables false
set_option linter.unusedSimpArgs false
def z6 : Obj := .cells #[.int .i64 0, .bool false, .slice none 0 0, .string ⟨#[]⟩, .int .i64 0, .slice none 0 0] 43 (0, 0)
/-- A box of a kind with these words lies at a place. -/
def LiesBox (l : List Int) (at_ : Nat) (kind : Int) (ws : List Int) : Prop := ∃ rest, l.drop at_ = boxWs kind ws ++ rest
theorem LiesBox.head {l : List Int} {at_ : Nat} {kind : Int} {ws : List Int} (h : LiesBox l at_ kind ws) : at_ + 1 + ws.length ≤ l.length ∧ l.getD at_ 0 = headW kind ws.length ∧ (l.drop (at_ + 1)).take ws.length = ws := by
  obtain ⟨rest, h⟩ := h
  have h1 : (l.drop at_).length = ws.length + 1 + rest.length := by rw [h]; simp [boxWs]; omega
  rw [List.length_drop] at h1
  refine ⟨by omega, ?_, ?_⟩
  · have : (l.drop at_)[0]? = some (headW kind ws.length) := by rw [h]; rfl
    rw [List.getElem?_drop] at this
    rw [List.getD_eq_getElem?_getD, show at_ = at_ + 0 by omega, this]
    rfl
  · rw [← List.drop_drop, h]
    simp [boxWs]
theorem headOf_headW (kind : Int) (size : Nat) (hk : 0 ≤ kind ∧ kind < 16) : headOfI (headW kind size) = (kind, (size : Int), true) := by
  unfold headOfI headW
  rw [if_pos (by omega)]
  congr 1
  · omega
  · congr 1
    omega
set_option maxHeartbeats 8000000 in
set_option maxRecDepth 100000 in
theorem box_bin (w : World) (B h g gw m : Nat) (v : Value) (l : List Int) (n : Nat) (ns : List ByteArray) (r : Nat) (lf : Int) (at_ : Nat) (bs : List Int) (H : Hp B w h g gw m v l n ns) (hr : w.heap[r]? = some (rdB h lf))
    (hb8 : B8 bs) (hlb : bs.length ≤ 100000) (hbx : LiesBox l at_ 4 (binWs bs)) :
    Calls Try.prog 140 #[.pointer (some ⟨r, 0, none⟩), .int .i64 (at_ : Int)] w fun e w' => e = .returned (.tuple #[binV (strOfNums bs), .bool true]) ∧ Below w.heap.size w w' := by
  obtain ⟨hx1, hx2, hx3⟩ := hbx.head
  have hn := H.ar.2.2.1
  have hn2 := H.ar.2.2.2.1
  obtain ⟨k, hk⟩ : ∃ k, (binWs bs).length = k := ⟨_, rfl⟩
  rw [hk] at hx1 hx2 hx3
  have hwa : wordA l (at_ : Int) = headW 4 k := by unfold wordA; rw [if_pos (by omega), Int.toNat_natCast, hx2]
  have hho := headOf_eq (headW 4 k) (by unfold headW; omega) (by unfold headW; omega)
  rw [headOf_headW 4 k (by omega)] at hho
  obtain ⟨W0, hW0⟩ : ∃ W0, w.alloc (.cells #[.int .i64 0, .bool false, .slice none 0 0, .string ⟨#[]⟩, .int .i64 0, .slice none 0 0] 43) = W0 := ⟨_, rfl⟩
  obtain ⟨gr, hgr⟩ : ∃ gr, w.heap.size = gr := ⟨_, rfl⟩
  have hr0 : W0.heap[gr]? = some z6 := by rw [← hW0, ← hgr]; exact heap_alloc_new _ _
  have hb0 : Below w.heap.size w W0 := by rw [← hW0]; exact below_alloc (Below.refl _ _) _
  have HB0 := Aside0.mk hb0
  have HR0 := Aside0.mk hr0
  have HH0 := Aside0.mk (H.below hb0)
  have hrr : W0.heap[r]? = some (rdB h lf) := (hb0.block _ (blk_lt hr)).trans hr
  have HRR := Aside0.mk hrr
  have c0 : W0.cell? ⟨r, 0, none⟩ = some (.pointer (some ⟨h, 0, none⟩)) := (blk_cell hrr 0).trans rfl
  obtain ⟨d0, _, _, _⟩ := HH0.out.cells
  have hq := Go.Proofs.YtlifdpfhepamfaaAr.word_calls W0 g gw n l (at_ : Int) HH0.out.ar
  rw [hwa] at hq
  have HQ := Aside0.mk hq
  have HHO := Aside0.mk (fun W => word_HeadOf.calls (headW 4 k) 4 (k : Int) true W hho)
  have HWS := Aside0.mk (fun W (hbl : Below w.heap.size w W) => (show Calls Try.prog 154 #[.pointer (some ⟨r, 0, none⟩), .int .i64 (at_ : Int), .int .i64 1, .int .i64 (k : Int)] W (WordsPost W k ((l.drop (at_ + 1)).take k)) from words_calls W B h g gw m v l n ns r lf at_ 1 k (H.below hbl) ((hbl.block _ (blk_lt hr)).trans hr) (by omega)))
  rw [hx3] at HWS
  have HK := Aside0.mk hk
  have HBI := Aside0.mk (fun (W : World) (rv : Value) A c hrd hc => binary_calls W rv A c bs hlb hb8 hrd hc)
  rw [hk] at HBI
  generalize headW 4 k = hw at HQ HHO
  clear H hr hb0 hr0 hrr hx1 hx2 hx3 hwa hho hbx hq hk
  go_enter Try.func140, Try.ntmps140
  go_wp2_with fail
  refine HQ.out.mono ?_
  rintro e w1 ⟨rfl, nd1, rfl⟩
  go_wp2_with fail
  refine (HHO.out _).mono ?_
  rintro e w2 ⟨rfl, nd2, rfl⟩
  have HB2 := Aside0.mk (show Below w.heap.size w (W0.drewN (nd1 + nd2)) from pw_below_drewN HB0.out (nd1 + nd2))
  clear c0 d0
  go_wp2_with fail
  refine (HWS.out _ HB2.out).mono ?_
  rintro e w3 ⟨A, c, rfl, hc, hrd, hba, hb3⟩
  have HB3 := Aside0.mk (below_step HB2.out hb3)
  have HB30 := Aside0.mk (show Below W0.heap.size W0 w3 from (pw_below_drewN (Below.refl _ W0) (nd1 + nd2)).trans hb3)
  have HBC := Aside0.mk (fun rv => HBI.out w3 rv A c hrd hc)
  clear hc hrd hba hb3 HWS HBI
  go_wp2_with fail
  refine (HBC.out _).mono ?_
  rintro e w4 ⟨rfl, hb4⟩
  have HB4 := Aside0.mk (below_step HB3.out hb4)
  have hr4 : w4.heap[gr]? = some z6 := (hb4.block _ (blk_lt ((HB30.out.block _ (blk_lt HR0.out)).trans HR0.out))).trans ((HB30.out.block _ (blk_lt HR0.out)).trans HR0.out)
  have g0 := blk_cell hr4
  have g1 := blk_frozen hr4
  have HR4 := Aside0.mk hr4
  clear hb4 hr4 HBC
  unfold binV
  go_wp2_with fail
  refine bodyPost_ret (results_cell2 rfl _ _ gr 43 #[.int .i64 6, .bool false, .slice none 0 0, .string (strOfNums bs), .int .i64 0, .slice none 0 0] (0, 0) _ rfl (six_put HR4.out) Try.underlying43 rfl (by kernel_rfl)) rfl ?_
  exact ⟨rfl, below_six (by first | exact HB4.out | (rw [← hgr]; exact HB4.out)) (by first | exact Nat.le_refl _ | (rw [hgr]; exact Nat.le_refl _))⟩
theorem ptr_bd (tag : Int) (at_ : Nat) (ht : tag = 1 ∨ tag = 2) (ha : at_ ≤ 32768) : 0 ≤ ptrW tag at_ ∧ ptrW tag at_ < 18446744073709551616 ∧ ptrW tag at_ % 4 = tag ∧ atI (ptrW tag at_) = (at_ : Int) ∧ isCatchI (ptrW tag at_) = (0, false) := by
  unfold ptrW
  have h1 : (at_ * 4 + tag) % 4 = tag := by omega
  refine ⟨by omega, by omega, h1, ?_, ?_⟩
  · unfold atI
    rw [if_pos (by rw [h1]; exact ht)]
    omega
  · unfold isCatchI
    rw [if_neg (by omega)]
theorem good_box {l : List Int} {at_ : Nat} {kind : Int} {ws : List Int} (h : LiesBox l at_ kind ws) (hk : 1 ≤ kind ∧ kind ≤ 6) (hl : l.length ≤ 32768) : goodI l (ptrW 2 at_) = true := by
  obtain ⟨h1, h2, h3⟩ := h.head
  obtain ⟨_, _, p1, p2, _⟩ := ptr_bd 2 at_ (.inr rfl) (by omega)
  have hwa : wordA l (at_ : Int) = headW kind ws.length := by unfold wordA; rw [if_pos (by omega), Int.toNat_natCast, h2]
  have hex : extA l (at_ : Int) = 1 + ws.length := by
    unfold extA extW
    rw [if_pos (by omega), Int.toNat_natCast, h2]
    unfold headW
    rw [if_pos (show ((ws.length : Int) * 64 + kind * 4) % 4 = 0 by omega)]
    rw [show ((ws.length : Int) * 64 + kind * 4) / 64 = ws.length by omega, if_pos (by omega)]
  unfold goodI
  rw [p1, if_neg (by omega), if_neg (by omega), if_pos rfl, p2, hwa, headOf_headW kind _ (by omega), hex]
  simp
  omega
theorem mods_six {w W : World} {S : Nat → Prop} {g : Nat} {a b c d e f : Value} (h : Mods S w W) (hg : S g ∨ w.heap.size ≤ g) : Mods S w ((((((W.setCell ⟨g, 0, none⟩ a).setCell ⟨g, 1, none⟩ b).setCell ⟨g, 2, none⟩ c).setCell ⟨g, 3, none⟩ d).setCell ⟨g, 4, none⟩ e).setCell ⟨g, 5, none⟩ f) :=
  (((((h.setCell (p := ⟨g, 0, none⟩) hg _).setCell (p := ⟨g, 1, none⟩) hg _).setCell (p := ⟨g, 2, none⟩) hg _).setCell (p := ⟨g, 3, none⟩) hg _).setCell (p := ⟨g, 4, none⟩) hg _).setCell (p := ⟨g, 5, none⟩) hg _
set_option maxHeartbeats 8000000 in
set_option maxRecDepth 100000 in
theorem term_bin (w : World) (B h g gw m : Nat) (v : Value) (l : List Int) (n : Nat) (ns : List ByteArray) (r : Nat) (lf : Int) (at_ : Nat) (bs : List Int) (H : Hp B w h g gw m v l n ns) (hr : w.heap[r]? = some (rdB h lf)) (hrn : ¬ SH h g gw m v r) (hf0 : 1 ≤ lf) (hf1 : lf ≤ 2000)
    (hb8 : B8 bs) (hlb : bs.length ≤ 100000) (hbx : LiesBox l at_ 4 (binWs bs)) :
    Calls Try.prog 94 #[.pointer (some ⟨r, 0, none⟩), .int .u64 (ptrW 2 at_)] w fun e w' => e = .returned (.tuple #[binV (strOfNums bs), .bool true]) ∧ Mods (fun k => k = r) w w' := by
  have hn := H.ar.2.2.1
  have hn2 := H.ar.2.2.2.1
  have hx1 := hbx.head.1
  obtain ⟨x0, x1, x2, x3, x4⟩ := ptr_bd 2 at_ (.inr rfl) (by omega)
  have hgd := good_box hbx (by omega) (by omega)
  have hat := at_eq _ x0 x1
  have htg := tag_eq (ptrW 2 at_)
  have hcc := isCatch_eq _ x0 x1
  rw [x3] at hat
  rw [x2] at htg
  rw [x4] at hcc
  obtain ⟨x, hx⟩ : ∃ x, ptrW 2 at_ = x := ⟨_, rfl⟩
  rw [hx] at hat htg hcc hgd x0 x1 ⊢
  obtain ⟨W0, hW0⟩ : ∃ W0, w.alloc (.cells #[.int .i64 0, .bool false, .slice none 0 0, .string ⟨#[]⟩, .int .i64 0, .slice none 0 0] 43) = W0 := ⟨_, rfl⟩
  obtain ⟨gr, hgr⟩ : ∃ gr, w.heap.size = gr := ⟨_, rfl⟩
  have hr0 : W0.heap[gr]? = some z6 := by rw [← hW0, ← hgr]; exact heap_alloc_new _ _
  have hb0 : Below w.heap.size w W0 := by rw [← hW0]; exact below_alloc (Below.refl _ _) _
  have hrr : W0.heap[r]? = some (rdB h lf) := (hb0.block _ (blk_lt hr)).trans hr
  have c1 : W0.cell? ⟨r, 1, none⟩ = some (.int .i64 lf) := (blk_cell hrr 1).trans rfl
  have f1 := blk_frozen hrr 1
  obtain ⟨W1, hW1⟩ : ∃ W1, W0.setCell ⟨r, 1, none⟩ (.int .i64 (lf - 1)) = W1 := ⟨_, rfl⟩
  have hm1 : Mods (fun k => k = r) w W1 := by rw [← hW1]; exact (Mods.of_below _ hb0).trans ((Mods.refl (fun k => k = r) W0).setCell (p := ⟨r, 1, none⟩) (.inl rfl) _)
  have hr1 : W1.heap[r]? = some (rdB h (lf - 1)) := by rw [← hW1]; exact blk_put hrr 1 _ rfl
  have hne : r ≠ gr := fun e => by have := blk_lt hr; omega
  have hg1 : W1.heap[gr]? = some z6 := by rw [← hW1]; exact (blk_far hr0 (p := ⟨r, 1, none⟩) (by first | exact hne | exact Ne.symm hne) _)
  have hh1 : Hp B W1 h g gw m v l n ns := H.mods hm1 (fun i hi e => hrn (by rw [← e]; exact hi))
  have d1 : W1.cell? ⟨r, 1, none⟩ = some (.int .i64 (lf - 1)) := (blk_cell hr1 1).trans rfl
  have d0 : W1.cell? ⟨r, 0, none⟩ = some (.pointer (some ⟨h, 0, none⟩)) := (blk_cell hr1 0).trans rfl
  have HM1 := Aside0.mk hm1
  have HR1 := Aside0.mk hr1
  have HG1 := Aside0.mk hg1
  have HAT := Aside0.mk (fun W => word_At.calls x _ W hat)
  have HTG := Aside0.mk (fun W => word_Tag.calls x _ W htg)
  have HCC := Aside0.mk (fun W => word_IsCatch.calls x 0 false W hcc)
  have HGD := Aside0.mk (fun W (hH : Hp B W h g gw m v l n ns) => good_calls W B h g gw m v l n ns x hH x0 x1)
  rw [hgd] at HGD
  have HH1 := Aside0.mk hh1
  have HBX := Aside0.mk (fun W (hH : Hp B W h g gw m v l n ns) hW => box_bin W B h g gw m v l n ns r (lf - 1) at_ bs hH hW hb8 hlb hbx)
  have hlt : ¬ (lf - 1 < 0) := by omega
  clear H hr hrn hb8 hlb hbx hx1 hgd hat htg hcc hr0 hb0 hrr hm1 hr1 hg1 hh1 x2 x3 x4 hx
  go_enter Try.func94, Try.ntmps94
  go_wp2_with fail
  refine (HCC.out _).mono ?_
  rintro e w2 ⟨rfl, nd2, rfl⟩
  clear c1 f1
  go_wp2_with fail
  refine (HGD.out _ (HH1.out.mods ((Mods.refl (fun _ => False) W1).drewN nd2) (fun _ _ => id))).mono ?_
  rintro e w3 ⟨rfl, nd3, rfl⟩
  go_wp2_with fail
  refine (HTG.out _).mono ?_
  rintro e w4 ⟨rfl, nd4, rfl⟩
  go_wp2_with fail
  refine (HAT.out _).mono ?_
  rintro e w5 ⟨rfl, nd5, rfl⟩
  obtain ⟨W5, hW5⟩ : ∃ W5, W1.drewN (nd2 + nd3 + nd4 + nd5) = W5 := ⟨_, rfl⟩
  have hm5 : Mods (fun _ => False) W1 W5 := by rw [← hW5]; exact (Mods.refl (fun _ => False) W1).drewN _
  have h5 := HH1.out.mods hm5 (fun _ _ => id)
  have hr5 : W5.heap[r]? = some (rdB h (lf - 1)) := hm5.blk HR1.out id
  have hg5 : W5.heap[gr]? = some z6 := hm5.blk HG1.out id
  have HG5 := Aside0.mk hg5
  have HC5 := Aside0.mk (HBX.out W5 h5 hr5)
  have HM5 := Aside0.mk (HM1.out.trans (hm5.mono (S' := fun k => k = r) (fun i hi => hi.elim)))
  have HM15 := Aside0.mk hm5
  clear h5 hr5 hg5 hm5 HBX d0 d1
  go_wp2_with fail
  refine HC5.out.mono ?_
  rintro e w6 ⟨rfl, hb6⟩
  have hg6 : w6.heap[gr]? = some z6 := (hb6.block _ (blk_lt HG5.out)).trans HG5.out
  have HG6 := Aside0.mk hg6
  have HM6 := Aside0.mk (HM5.out.then_below hb6)
  have g0 := blk_cell hg6
  have g1 := blk_frozen hg6
  clear hb6 hg6 HC5
  unfold binV
  go_wp2_with fail
  refine bodyPost_ret (results_cell2 rfl _ _ gr 43 #[.int .i64 6, .bool false, .slice none 0 0, .string (strOfNums bs), .int .i64 0, .slice none 0 0] (0, 0) _ rfl (six_put HG6.out) Try.underlying43 rfl (by kernel_rfl)) rfl ?_
  exact ⟨rfl, mods_six HM6.out (.inr (by first | exact Nat.le_refl _ | (rw [hgr]; exact Nat.le_refl _)))⟩
/-- A term as a value. -/
def tv (a : Int) (b : Bool) (A : Option Addr) (n c : Nat) (s : ByteArray) (N : Int) (A' : Option Addr) (n' c' : Nat) : Value := .agg #[.int .i64 a, .bool b, .slice A n c, .string s, .int .i64 N, .slice A' n' c']
set_option maxHeartbeats 8000000 in
set_option maxRecDepth 100000 in
/-- Get, where the reader of the term answers a term: what holds of that term holds behind Get. -/
theorem get_ok (w : World) (h : Nat) (x : Int) (P : Value → World → Prop) (hP : ∀ V w1 w2, Mods (fun k => k = w.heap.size) w1 w2 → P V w1 → P V w2)
    (hT : ∀ W r, Below w.heap.size w W → r = w.heap.size + 1 → W.heap[r]? = some (rdB h 2000) → Calls Try.prog 94 #[.pointer (some ⟨r, 0, none⟩), .int .u64 x] W fun e w' => ∃ a b A n c s N A' n' c', e = .returned (.tuple #[tv a b A n c s N A' n' c', .bool true]) ∧ Mods (fun k => k = r) W w' ∧ P (tv a b A n c s N A' n' c') w') :
    Calls Try.prog 42 #[.pointer (some ⟨h, 0, none⟩), .int .u64 x] w fun e w' => ∃ V, e = .returned (.tuple #[V, .bool true]) ∧ Below w.heap.size w w' ∧ P V w' := by
  obtain ⟨W0, hW0⟩ : ∃ W0, w.alloc (.cells #[.int .i64 0, .bool false, .slice none 0 0, .string ⟨#[]⟩, .int .i64 0, .slice none 0 0] 43) = W0 := ⟨_, rfl⟩
  obtain ⟨gr, hgr⟩ : ∃ gr, w.heap.size = gr := ⟨_, rfl⟩
  have hr0 : W0.heap[gr]? = some z6 := by rw [← hW0, ← hgr]; exact heap_alloc_new _ _
  have hb0 : Below w.heap.size w W0 := by rw [← hW0]; exact below_alloc (Below.refl _ _) _
  have hs0 : W0.heap.size = gr + 1 := by rw [← hW0, ← hgr]; exact Array.size_push _
  obtain ⟨W1, hW1⟩ : ∃ W1, W0.alloc (.cells #[.pointer (some ⟨h, 0, none⟩), .int .i64 2000] 128) = W1 := ⟨_, rfl⟩
  obtain ⟨r, hr⟩ : ∃ r, gr + 1 = r := ⟨_, rfl⟩
  have hr1 : W1.heap[r]? = some (rdB h 2000) := by rw [← hW1, ← hr, ← hs0]; exact heap_alloc_new _ _
  have hb1 : Below w.heap.size w W1 := by rw [← hW1]; exact below_alloc hb0 _
  have hg1 : W1.heap[gr]? = some z6 := by rw [← hW1]; exact ((below_alloc (Below.refl W0.heap.size W0) _).block _ (blk_lt hr0)).trans hr0
  have HC := Aside0.mk (hT W1 r hb1 (by rw [hgr]; exact hr.symm) hr1)
  have HB1 := Aside0.mk hb1
  have HG1 := Aside0.mk hg1
  have hle : w.heap.size ≤ r := by omega
  have hne : gr ≠ r := by omega
  have HP := Aside0.mk hP
  rw [hgr] at HP
  clear hr0 hb0 hr1 hb1 hg1 hT hP
  go_enter Try.func42, Try.ntmps42
  go_wp2_with fail
  refine HC.out.mono ?_
  rintro e w2 ⟨ta, tb, tA, tn, tc, ts, tN, tA', tn', tc', rfl, hm, hp⟩
  have hg2 : w2.heap[gr]? = some z6 := hm.blk HG1.out hne
  obtain ⟨q, hq⟩ : ∃ q, w2.heap.size = q := ⟨_, rfl⟩
  obtain ⟨W3, hW3⟩ : ∃ W3, w2.alloc (.cells #[.int .i64 0, .bool false, .slice none 0 0, .string ⟨#[]⟩, .int .i64 0, .slice none 0 0] 43) = W3 := ⟨_, rfl⟩
  have hq3 : W3.heap[q]? = some z6 := by rw [← hW3, ← hq]; exact heap_alloc_new _ _
  have hb3 : Below w2.heap.size w2 W3 := by rw [← hW3]; exact below_alloc (Below.refl _ _) _
  have hg3 : W3.heap[gr]? = some z6 := (hb3.block _ (blk_lt hg2)).trans hg2
  have hgq : gr ≠ q := fun e => by have := blk_lt hg2; omega
  have hq3' : W3.heap[q]? = some (.cells #[.int .i64 0, .bool false, .slice none 0 0, .string ⟨#[]⟩, .int .i64 0, .slice none 0 0] 43 (0, 0)) := hq3
  have m5 := six_put (a' := .int .i64 ta) (b' := .bool tb) (c' := .slice tA tn tc) (d' := .string ts) (e' := .int .i64 tN) (f' := .slice tA' tn' tc') hq3'
  obtain ⟨p0, p1, p2, p3, p4, p5⟩ := six_cells hq3'
  obtain ⟨z0, z1, z2, z3, z4, z5⟩ := six_live hq3'
  obtain ⟨W6, hW6⟩ : ∃ W6, (((((W3.setCell ⟨q, 0, none⟩ (.int .i64 ta)).setCell ⟨q, 1, none⟩ (.bool tb)).setCell ⟨q, 2, none⟩ (.slice tA tn tc)).setCell ⟨q, 3, none⟩ (.string ts)).setCell ⟨q, 4, none⟩ (.int .i64 tN)).setCell ⟨q, 5, none⟩ (.slice tA' tn' tc') = W6 := ⟨_, rfl⟩
  rw [hW6] at m5
  obtain ⟨r0, r1, r2, r3, r4, r5⟩ := six_cells m5
  have hb6 : Below w2.heap.size w2 W6 := by rw [← hW6]; exact below_six hb3 (by omega)
  have hg6 : W6.heap[gr]? = some z6 := (hb6.block _ (blk_lt hg2)).trans hg2
  have hg6' : W6.heap[gr]? = some (.cells #[.int .i64 0, .bool false, .slice none 0 0, .string ⟨#[]⟩, .int .i64 0, .slice none 0 0] 43 (0, 0)) := hg6
  obtain ⟨s0, s1, s2, s3, s4, s5⟩ := six_cells hg6'
  obtain ⟨f0, f1, f2, f3, f4, f5⟩ := six_live hg6'
  have HG6 := Aside0.mk hg6
  have HB6 := Aside0.mk hb6
  have HM2 := Aside0.mk hm
  have HP2 := Aside0.mk hp
  clear hg2 hm hp hq3 hb3 hg3 hq3' m5 hg6 hg6' hb6
  unfold tv
  go_wp2_with fail
  refine bodyPost_ret (results_cell2 rfl _ _ gr 43 #[.int .i64 ta, .bool tb, .slice tA tn tc, .string ts, .int .i64 tN, .slice tA' tn' tc'] (0, 0) _ rfl (six_put HG6.out) Try.underlying43 rfl (by kernel_rfl)) rfl ?_
  have hm6 : Mods (fun k => k = r) W1 W6 := HM2.out.then_below HB6.out
  have hb7 : Below w.heap.size w W6 := below_mods HB1.out hm6 HB1.out.size (fun k hk => by omega)
  have hle0 : w.heap.size ≤ gr := by omega
  refine ⟨_, rfl, below_six hb7 hle0, HP.out _ _ _ (mods_six ((Mods.refl (fun k => k = gr) w2).then_below HB6.out) (.inl rfl)) HP2.out⟩
set_option maxHeartbeats 8000000 in
set_option maxRecDepth 100000 in
theorem get_bin (w : World) (B h g gw m : Nat) (v : Value) (l : List Int) (n : Nat) (ns : List ByteArray) (at_ : Nat) (bs : List Int) (H : Hp B w h g gw m v l n ns)
    (hb8 : B8 bs) (hlb : bs.length ≤ 100000) (hbx : LiesBox l at_ 4 (binWs bs)) :
    Calls Try.prog 42 #[.pointer (some ⟨h, 0, none⟩), .int .u64 (ptrW 2 at_)] w fun e w' => e = .returned (.tuple #[binV (strOfNums bs), .bool true]) ∧ Below w.heap.size w w' := by
  refine (get_ok w h _ (fun V _ => V = binV (strOfNums bs)) (fun _ _ _ _ => id) ?_).mono ?_
  · intro W r hb hr hW
    refine (term_bin W B h g gw m v l n ns r 2000 at_ bs (H.below hb) hW (fun hs => by have := (H.foot r hs).2; omega) (by omega) (by omega) hb8 hlb hbx).mono ?_
    rintro e w' ⟨rfl, hm⟩
    exact ⟨_, _, _, _, _, _, _, _, _, _, rfl, hm, rfl⟩
  · rintro e w' ⟨V, rfl, hb, rfl⟩
    exact ⟨rfl, hb⟩
end Go.Proofs.YtlifdpfhepamfaaRt
