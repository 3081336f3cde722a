/- ArenaPlays: any calls: places, words, extents, as the document's arena has them. The walk. -/
import Derived.Test.YtbephainjmgpjaaRef11
import Derived.Test.YtbephainjmgpjaaPlace
import Derived.Test.YtbephainjmgpjaaAwake11
import Derived.Deep.RegionWith
namespace Go.Proofs.YtbephainjmgpjaaPlays
open Go.RowKit Go.Proofs.YtbephainjmgpjaaW.PrintWords Go.Proofs.YtbephainjmgpjaaW.PrintLast Go.Proofs.YtbephainjmgpjaaW.PrintMore Go.Proofs.YtbephainjmgpjaaMem Go.Proofs.YtbephainjmgpjaaBits Go.Proofs Go.Proofs.YtbephainjmgpjaaAr Go.Proofs.YtbephainjmgpjaaPl Go.Proofs.YtbephainjmgpjaaRef11
attribute [local go_sem] max2_int min2_int max_two min_two max_three min_three max_four min_four
set_option linter.unusedVariables false
set_option linter.unusedSimpArgs false
/-- A slice of calls that came in. -/
def OpRow (w : World) (a : Option Addr) (n : Nat) (f : Nat → Int × Int × Int) : Prop :=
  n ≤ 9223372036854775807 ∧ (0 < n → ∃ ad, a = some ad ∧ ∀ j, j < n → w.cell? (ad.add (j * 3)) = some (.int .i64 (f j).1) ∧ w.cell? ⟨(ad.add (j * 3)).block, (ad.add (j * 3)).off + 1, none⟩ = some (.int .i64 (f j).2.1) ∧ w.cell? ⟨(ad.add (j * 3)).block, (ad.add (j * 3)).off + 2, none⟩ = some (.int .u64 (f j).2.2) ∧ 0 ≤ (f j).2.2 ∧ (f j).2.2 < 18446744073709551616)
/-- Both arenas hold the same, and lie apart. -/
def Both (B : Nat) (w : World) (g gw r : Nat) (v : Value) (l : List Int) (n : Nat) : Prop :=
  Ar w g gw l n ∧ RA B w r v l n ∧ g ≠ r ∧ gw ≠ r ∧ some g ≠ v.ownBlock ∧ some gw ≠ v.ownBlock ∧ B ≤ g ∧ B ≤ gw ∧ B ≤ r ∧ B ≤ w.heap.size
section
variable {B g gw r n : Nat} {w w' : World} {v : Value} {l : List Int}
theorem Both.below (h : Both B w g gw r v l n) (k : Below w.heap.size w w') : Both B w' g gw r v l n :=
  ⟨h.1.below k, h.2.1.below k, h.2.2.1, h.2.2.2.1, h.2.2.2.2.1, h.2.2.2.2.2.1, h.2.2.2.2.2.2.1, h.2.2.2.2.2.2.2.1, h.2.2.2.2.2.2.2.2.1, Nat.le_trans h.2.2.2.2.2.2.2.2.2 k.size⟩
/-- The first arena was written to. -/
theorem Both.first {l' : List Int} (h : Both B w g gw r v l n) (ha : Ar w' g gw l' n) {S : Nat → Prop} (k : Mods S w w') (hS : ∀ i, S i → i = g ∨ i = gw) : RA B w' r v l n ∧ Below B w w' :=
  ⟨h.2.1.mods k (fun x => (hS _ x).elim (fun e => h.2.2.1 e.symm) (fun e => h.2.2.2.1 e.symm)) (fun i hi x => (hS _ x).elim (fun e => h.2.2.2.2.1 (by rw [hi, e])) (fun e => h.2.2.2.2.2.1 (by rw [hi, e]))),
   k.below h.2.2.2.2.2.2.2.2.2 (fun i x => (hS i x).elim (fun e => e ▸ h.2.2.2.2.2.2.1) (fun e => e ▸ h.2.2.2.2.2.2.2.1))⟩
/-- .. and then the second. -/
theorem Both.second {w1 w2 : World} {v' : Value} {l' : List Int} (h : Both B w g gw r v l n) (ha : Ar w1 g gw l' n) (hb : Below B w w1) (hs : w.heap.size ≤ w1.heap.size) (hra : RA B w2 r v' l' n) (k : Mods (FR r v) w1 w2)
    (hv : v'.ownBlock = v.ownBlock ∨ ∃ b, v'.ownBlock = some b ∧ w1.heap.size ≤ b) : Both B w2 g gw r v' l' n ∧ Below B w1 w2 := by
  obtain ⟨_, h2, h3, h4, h5, h6, h7, h8, h9, h10⟩ := h
  have hlt := ha.lt
  refine ⟨⟨ha.mods k (fun x => x.elim h3 h5) (fun x => x.elim h4 h6), hra, h3, h4, ?_, ?_, h7, h8, h9, Nat.le_trans h10 (Nat.le_trans hs k.size)⟩, k.below (Nat.le_trans h10 hs) (fun i x => x.elim (fun e => e ▸ h9) (fun e => own_base h2.2.1 i e.symm))⟩
  · rcases hv with hv | ⟨b, hv, hb⟩
    · rw [hv]; exact h5
    · rw [hv]; intro e; injection e with e; omega
  · rcases hv with hv | ⟨b, hv, hb⟩
    · rw [hv]; exact h6
    · rw [hv]; intro e; injection e with e; omega
/-- A block that is no arena's stays. -/
theorem Both.other {w1 w2 : World} {q : Nat} {o : Obj} (hq : w1.heap[q]? = some o) (h1 : q ≠ r) (h2 : some q ≠ v.ownBlock) (k : Mods (FR r v) w1 w2) : w2.heap[q]? = some o := k.blk hq (fun x => x.elim h1 h2)
end
set_option maxHeartbeats 8000000 in
set_option maxRecDepth 100000 in
theorem law_calls (size : Int) (a : Option Addr) (len cap : Nat) (f : Nat → Int × Int × Int) (w : World) (hr : OpRow w a len f) :
    Calls Try.prog 9 #[.int .i64 size, .slice a len cap] w fun e w' => e = .returned (.bool true) ∧ Below w.heap.size w w' := by
  have HR := Aside0.mk hr
  clear hr
  go_enter Try.func9, Try.ntmps9
  go_wp2_with fail
  refine (new_calls size _).mono ?_
  rintro e w1 ⟨rfl, ha, hb⟩
  go_wp2_with fail
  refine (rnew_calls size _ w.heap.size).mono ?_
  rintro e w2 ⟨rfl, hra, hb2⟩
  have h0 : w.heap.size ≤ w1.heap.size := hb.size
  have hlt := ha.lt
  have HAB := Aside0.mk (show Both w.heap.size w2 (w.heap.size + 1) w.heap.size w1.heap.size (.slice none 0 0) [] (sizeA size) from
    ⟨ha.below hb2, hra, by omega, by omega, by simp [Value.ownBlock], by simp [Value.ownBlock], by omega, by omega, by omega, Nat.le_trans h0 hb2.size⟩)
  have HB := Aside0.mk (below_then hb hb.size hb2)
  generalize w.heap.size + 1 = g at HAB ⊢
  generalize w1.heap.size = r at HAB ⊢
  obtain ⟨gw, hgw⟩ : ∃ gw, w.heap.size = gw := ⟨_, rfl⟩
  have HAB2 := Aside0.mk (show Both w.heap.size w2 g gw r (.slice none 0 0) [] (sizeA size) by rw [← hgw]; exact HAB.out)
  clear hb hb2 ha hra h0 hlt hgw HAB
  generalize sizeA size = n at HAB2
  go_wp2_with fail
  go_loopg [7] 61 (fun k v7 wr => ∃ (i : Nat) (l : List Int) (v : Value), v7 = .int .i64 i ∧ i ≤ 60 ∧ i ≤ len ∧ k = 61 - i ∧ Aside0 (Both w.heap.size wr g gw r v l n) ∧ Aside0 (Below w.heap.size w wr))
  case atStart => exact ⟨0, [], _, rfl, by omega, by omega, rfl, HAB2, HB⟩
  case round =>
    clear HAB2 HB
    obtain ⟨i, l, v, rfl, hi, hil, rfl, HAB, HB⟩ := hrel
    by_cases hlt : i < len ∧ i < 60
    · obtain ⟨hl1, hl2⟩ := hlt
      obtain ⟨ad, ea, hc⟩ := HR.out.2 (by omega)
      subst ea
      obtain ⟨h1, h2, h3, h4, h5⟩ := hc i hl1
      clear hc
      have k1 := (HB.out.cell (World.block_lt_of_cell? w _ h1)).trans h1
      have k2 := (HB.out.cell (World.block_lt_of_cell? w _ h2)).trans h2
      have k3 := (HB.out.cell (World.block_lt_of_cell? w _ h3)).trans h3
      clear h1 h2 h3
      have HW := Aside0.mk (And.intro h4 h5)
      clear h4 h5
      generalize (f i).1 = kd at k1
      generalize (f i).2.1 = m at k2
      generalize (f i).2.2 = x at k3 HW
      have b1 : (i : Int) < (len : Int) := by omega
      have b2 : (i : Int) < 60 := by omega
      go_wp2_with fail
      have hq0 := blk_new wr (.cells #[.int .i64 kd, .int .i64 m, .int .u64 x] 51 (0, 0))
      have hbo := below_alloc (Below.refl wr.heap.size wr) (.cells #[.int .i64 kd, .int .i64 m, .int .u64 x] 51)
      have HAB0 := Aside0.mk (HAB.out.below hbo)
      have HB0 := Aside0.mk (below_then HB.out HB.out.size hbo)
      have hltg := HAB.out.1.lt
      have hltr := blk_lt HAB.out.2.1.1
      have hltv := fun i (hi : v.ownBlock = some i) => own_lt HAB.out.2.1.2.1 i hi
      have HQ := Aside0.mk (show (wr.alloc (.cells #[.int .i64 kd, .int .i64 m, .int .u64 x] 51)).heap[wr.heap.size]? = some (.cells #[.int .i64 kd, .int .i64 m, .int .u64 x] 51 (0, 0)) by simpa using heap_alloc_new wr _)
      have HQN := Aside0.mk (show wr.heap.size ≠ g ∧ wr.heap.size ≠ gw ∧ wr.heap.size ≠ r ∧ some wr.heap.size ≠ v.ownBlock from ⟨by omega, by omega, by omega, fun hh => by have := hltv _ hh.symm; omega⟩)
      clear hq0 hbo HAB HB hltg hltr hltv k1 k2 k3
      generalize wr.alloc (.cells #[.int .i64 kd, .int .i64 m, .int .u64 x] 51) = w3 at HAB0 HB0 HQ ⊢
      generalize wr.heap.size = q at HQ HQN ⊢
      refine (place_calls kd 4 _ (by omega) (by omega)).mono ?_
      rintro e w4 ⟨rfl, n4, rfl⟩
      have qc1 : w3.cell? ⟨q, 1, none⟩ = some (.int .i64 m) := (blk_cell HQ.out 1).trans rfl
      have qc2 : w3.cell? ⟨q, 2, none⟩ = some (.int .u64 x) := (blk_cell HQ.out 2).trans rfl
      by_cases hp : kd % 4 < 2
      · have hpb : decide (kd % 4 < 2) = true := decide_eq_true hp
        go_wp2_with fail
        refine (alloc_calls (w3.drewN n4) g gw n l m (Ar.drewN HAB0.out.1 n4)).mono ?_
        rintro e w5 ⟨rfl, ha, hm⟩
        obtain ⟨hra, hbb⟩ := Both.first (w := w3.drewN n4) (HAB0.out) ha hm (fun i hi => .inl hi)
        have HQ5 := Aside0.mk (hm.blk (w := w3.drewN n4) HQ.out HQN.out.1)
        have HA5 := Aside0.mk ha
        have HR5 := Aside0.mk hra
        have HBB := Aside0.mk hbb
        have HS5 := Aside0.mk hm.size
        have qd1 : w5.cell? ⟨q, 1, none⟩ = some (.int .i64 m) := (blk_cell HQ5.out 1).trans rfl
        have qd2 : w5.cell? ⟨q, 2, none⟩ = some (.int .u64 x) := (blk_cell HQ5.out 2).trans rfl
        clear ha hm hra hbb qc1 qc2 HQ
        go_wp2_with fail
        refine (ralloc_calls w5 w.heap.size r n v l m HR5.out (Nat.le_trans HAB0.out.2.2.2.2.2.2.2.2.2 HS5.out)).mono ?_
        rintro e w6 ⟨rfl, v', hra, hm, hv⟩
        obtain ⟨hab, hbb⟩ := Both.second (w := w3.drewN n4) HAB0.out HA5.out HBB.out HS5.out hra hm hv
        have HAB6 := Aside0.mk hab
        have HB6 := Aside0.mk (((pw_below_drewN HB0.out n4).trans HBB.out).trans hbb)
        have HQ6 := Aside0.mk (Both.other HQ5.out HQN.out.2.2.1 HQN.out.2.2.2 hm)
        clear hab hbb hra hm hv qd1 qd2 HA5 HR5 HBB HS5 HQ5 HAB0 HB0
        generalize atA l n m = y1
        generalize okA l n m = y2
        generalize resA l n m = l' at HAB6
        obtain ⟨A', c', hv', hrd'⟩ := HAB6.out.2.1.form
        subst hv'
        have rc0 := HAB6.out.2.1.c0
        have rc1 := HAB6.out.2.1.c1
        have qe1 : w6.cell? ⟨q, 1, none⟩ = some (.int .i64 m) := (blk_cell HQ6.out 1).trans rfl
        have U1 := Aside0.mk (fun p => used_calls (w6.drewN p) g gw n l' (Ar.drewN HAB6.out.1 p))
        have U2 := Aside0.mk (fun p => size_calls (w6.drewN p) g gw n l' (Ar.drewN HAB6.out.1 p))
        have U3 := Aside0.mk (fun p => word_calls (w6.drewN p) g gw n l' m (Ar.drewN HAB6.out.1 p))
        have U4 := Aside0.mk (fun p => rword_calls (w6.drewN p) _ r n _ l' m (RA.drewN HAB6.out.2.1 p))
        have U5 := Aside0.mk (fun p => extent_calls (w6.drewN p) g gw n l' m (Ar.drewN HAB6.out.1 p))
        have U6 := Aside0.mk (fun p => rextent_calls (w6.drewN p) _ r n _ l' m (RA.drewN HAB6.out.2.1 p))
        go_wp2_with fail
        go_quiet ((first | (go_at_call 26; exact Calls.quiet_of (U1.out _)) | (go_at_call 45; exact Calls.quiet_of (U2.out _)) | (go_at_call 25; exact Calls.quiet_of (U3.out _)) | (go_at_call 46; exact Calls.quiet_of (U4.out _)) | (go_at_call 41; exact Calls.quiet_of (U5.out _)) | (go_at_call 47; exact Calls.quiet_of (U6.out _))))
        go_wp2_with fail
        go_roundg (61 - (i + 1))
        case measure => omega
        case rel => exact ⟨i + 1, l', _, by go_num, by omega, by omega, rfl, ⟨HAB6.out.below (pw_below_drewN (Below.refl _ _) _)⟩, ⟨pw_below_drewN HB6.out _⟩⟩
      · have hpb : decide (kd % 4 < 2) = false := decide_eq_false hp
        go_wp2_with fail
        refine (set_calls (w3.drewN n4) g gw n l m x (Ar.drewN HAB0.out.1 n4) HW.out.1 HW.out.2).mono ?_
        rintro e w5 ⟨rfl, ha, hm⟩
        obtain ⟨hra, hbb⟩ := Both.first (w := w3.drewN n4) (HAB0.out) ha hm (fun i hi => .inr hi)
        have HQ5 := Aside0.mk (hm.blk (w := w3.drewN n4) HQ.out HQN.out.2.1)
        have HA5 := Aside0.mk ha
        have HR5 := Aside0.mk hra
        have HBB := Aside0.mk hbb
        have HS5 := Aside0.mk hm.size
        have qd1 : w5.cell? ⟨q, 1, none⟩ = some (.int .i64 m) := (blk_cell HQ5.out 1).trans rfl
        have qd2 : w5.cell? ⟨q, 2, none⟩ = some (.int .u64 x) := (blk_cell HQ5.out 2).trans rfl
        clear ha hm hra hbb qc1 qc2 HQ
        go_wp2_with fail
        refine (rset_calls w5 w.heap.size r n v l m x HR5.out HW.out.1 HW.out.2).mono ?_
        rintro e w6 ⟨rfl, hra, hm⟩
        obtain ⟨hab, hbb⟩ := Both.second (w := w3.drewN n4) HAB0.out HA5.out HBB.out HS5.out hra hm (.inl rfl)
        have HAB6 := Aside0.mk hab
        have HB6 := Aside0.mk (((pw_below_drewN HB0.out n4).trans HBB.out).trans hbb)
        have HQ6 := Aside0.mk (Both.other HQ5.out HQN.out.2.2.1 HQN.out.2.2.2 hm)
        clear hab hbb hra hm qd1 qd2 HA5 HR5 HBB HS5 HQ5 HAB0 HB0
        generalize setA l m x = l' at HAB6
        obtain ⟨A', c', hv', hrd'⟩ := HAB6.out.2.1.form
        subst hv'
        have rc0 := HAB6.out.2.1.c0
        have rc1 := HAB6.out.2.1.c1
        have qe1 : w6.cell? ⟨q, 1, none⟩ = some (.int .i64 m) := (blk_cell HQ6.out 1).trans rfl
        have U1 := Aside0.mk (fun p => used_calls (w6.drewN p) g gw n l' (Ar.drewN HAB6.out.1 p))
        have U2 := Aside0.mk (fun p => size_calls (w6.drewN p) g gw n l' (Ar.drewN HAB6.out.1 p))
        have U3 := Aside0.mk (fun p => word_calls (w6.drewN p) g gw n l' m (Ar.drewN HAB6.out.1 p))
        have U4 := Aside0.mk (fun p => rword_calls (w6.drewN p) _ r n _ l' m (RA.drewN HAB6.out.2.1 p))
        have U5 := Aside0.mk (fun p => extent_calls (w6.drewN p) g gw n l' m (Ar.drewN HAB6.out.1 p))
        have U6 := Aside0.mk (fun p => rextent_calls (w6.drewN p) _ r n _ l' m (RA.drewN HAB6.out.2.1 p))
        go_wp2_with fail
        go_quiet ((first | (go_at_call 26; exact Calls.quiet_of (U1.out _)) | (go_at_call 45; exact Calls.quiet_of (U2.out _)) | (go_at_call 25; exact Calls.quiet_of (U3.out _)) | (go_at_call 46; exact Calls.quiet_of (U4.out _)) | (go_at_call 41; exact Calls.quiet_of (U5.out _)) | (go_at_call 47; exact Calls.quiet_of (U6.out _))))
        go_wp2_with fail
        go_roundg (61 - (i + 1))
        case measure => omega
        case rel => exact ⟨i + 1, l', _, by go_num, by omega, by omega, rfl, ⟨HAB6.out.below (pw_below_drewN (Below.refl _ _) _)⟩, ⟨pw_below_drewN HB6.out _⟩⟩
    · have hcase : ((i : Int) < (len : Int) ∧ ¬ (i : Int) < 60) ∨ ¬ (i : Int) < (len : Int) := by omega
      clear hlt
      obtain ⟨A', c', hv', hrd'⟩ := HAB.out.2.1.form
      subst hv'
      have HRD := Aside0.mk hrd'
      have rc1 := HAB.out.2.1.c1
      clear hrd'
      rcases hcase with ⟨b1, b2⟩ | b1
      all_goals
        go_wp2_with fail
        go_region_held3 (fun w' => w'.cell? ⟨r, 1, none⟩ = some (.slice A' l.length c'))
          (first
            | go_keep
            | assumption)
          ((first
            | (go_at_call 24; refine (words_calls _ g gw n l (by exact HAB.out.1)).mono ?_; rintro e w2 ⟨v2, rfl, ho, hb⟩; obtain ⟨A2, c2, rfl, hr2⟩ := own_reads ho; have HR2 := Aside0.mk hr2; have HB2 := Aside0.mk ((below_drew (Below.refl wr.heap.size wr)).trans hb); have cw_keep := pw_cell_below HB2.out rc1; have HRD2 := Aside0.mk (HRD.out.below HB2.out); clear ho hr2 hb)
            | (go_at_call 48; refine (same_calls _ _ _ _ _ _ l (by exact HR2.out) (by exact HRD2.out)).mono ?_; rintro e w3 ⟨rfl, n3, rfl⟩)
            | (go_at_call 27; refine (awake_calls _).mono ?_; rintro e w4 ⟨rfl, hb⟩; have HB4 := Aside0.mk hb; have cw_keep4 := pw_cell_below (w := w2.drewN n3) hb cw_keep; clear hb)))
        go_wp2_with fail
        go_ret
        exact ⟨by first | rfl | (simp; done), below_then (pw_below_drewN (below_then HB.out HB.out.size HB2.out) n3) (Nat.le_trans HB.out.size HB2.out.size) HB4.out⟩
end Go.Proofs.YtbephainjmgpjaaPlays
