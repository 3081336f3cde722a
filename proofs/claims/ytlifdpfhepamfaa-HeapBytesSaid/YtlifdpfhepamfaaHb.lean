/- Bytes as words: what Bytes lays. -/
import Derived.Test.YtlifdpfhepamfaaHo
import Derived.Test.YtlifdpfhepamfaaWd
import Derived.WalkSpells
import Derived.StillTailTactics
namespace Go.Proofs.YtlifdpfhepamfaaHb
open Go.RowKit Go.Maps Go.Proofs.YtlifdpfhepamfaaW.PrintWords Go.Proofs.YtlifdpfhepamfaaW.PrintLast Go.Proofs.YtlifdpfhepamfaaW.PrintMore Go.Proofs.YtlifdpfhepamfaaMem Go.Proofs.YtlifdpfhepamfaaLeaf Go.Proofs.YtlifdpfhepamfaaBits Go.Proofs.Ytlifdpfhepamfaa.PHe Go.Proofs.YtlifdpfhepamfaaRow Go.Proofs.YtlifdpfhepamfaaAr Go.Proofs.YtlifdpfhepamfaaHp Go.Proofs.YtlifdpfhepamfaaHo Go.Proofs.YtlifdpfhepamfaaWd Go.Proofs
set_option linter.unusedVariables false
set_option linter.unusedSimpArgs false
/-- What a byte's place in a word counts. -/
def pw : Nat → Int | 0 => 72057594037927936 | 1 => 281474976710656 | 2 => 1099511627776 | 3 => 4294967296 | 4 => 16777216 | 5 => 65536 | 6 => 256 | _ => 1
/-- The first bytes of a word. -/
def wsum (bs : List Int) (j : Nat) : Nat → Int
  | 0 => 0
  | t + 1 => wsum bs j t + bs.getD (8 * j + t) 0 * pw t
def B8 (bs : List Int) : Prop := ∀ i, 0 ≤ bs.getD i 0 ∧ bs.getD i 0 < 256
theorem lt8 {t : Nat} (h : t < 8) : t = 0 ∨ t = 1 ∨ t = 2 ∨ t = 3 ∨ t = 4 ∨ t = 5 ∨ t = 6 ∨ t = 7 := by omega
theorem wsum_bd {bs : List Int} (h : B8 bs) (j t : Nat) (ht : t ≤ 8) : 0 ≤ wsum bs j t ∧ wsum bs j t < 18446744073709551616 := by
  have h0 := h (8 * j + 0); have h1 := h (8 * j + 1); have h2 := h (8 * j + 2); have h3 := h (8 * j + 3); have h4 := h (8 * j + 4); have h5 := h (8 * j + 5); have h6 := h (8 * j + 6); have h7 := h (8 * j + 7)
  obtain rfl | rfl | rfl | rfl | rfl | rfl | rfl | rfl | rfl : t = 0 ∨ t = 1 ∨ t = 2 ∨ t = 3 ∨ t = 4 ∨ t = 5 ∨ t = 6 ∨ t = 7 ∨ t = 8 := by omega
  all_goals (simp only [wsum, pw]; omega)
theorem or_step {bs : List Int} (h : B8 bs) (j t : Nat) (ht : t < 8) (x : Int) (hx : 0 ≤ x ∧ x < 256) : Go.bits .or .u64 (wsum bs j t) (x * pw t) = wsum bs j t + x * pw t := by
  have h0 := h (8 * j + 0); have h1 := h (8 * j + 1); have h2 := h (8 * j + 2); have h3 := h (8 * j + 3); have h4 := h (8 * j + 4); have h5 := h (8 * j + 5); have h6 := h (8 * j + 6); have h7 := h (8 * j + 7)
  obtain rfl | rfl | rfl | rfl | rfl | rfl | rfl | rfl := lt8 ht
  · exact or_join 64 _ _ (by simp only [wsum, pw]; omega) (by simp only [wsum, pw]; omega) (by simp only [wsum, pw]; omega) (by simp only [pw]; omega) (by simp only [pw]; omega) (by simp only [pw]; omega)
  · exact or_join 56 _ _ (by simp only [wsum, pw]; omega) (by simp only [wsum, pw]; omega) (by simp only [wsum, pw]; omega) (by simp only [pw]; omega) (by simp only [pw]; omega) (by simp only [pw]; omega)
  · exact or_join 48 _ _ (by simp only [wsum, pw]; omega) (by simp only [wsum, pw]; omega) (by simp only [wsum, pw]; omega) (by simp only [pw]; omega) (by simp only [pw]; omega) (by simp only [pw]; omega)
  · exact or_join 40 _ _ (by simp only [wsum, pw]; omega) (by simp only [wsum, pw]; omega) (by simp only [wsum, pw]; omega) (by simp only [pw]; omega) (by simp only [pw]; omega) (by simp only [pw]; omega)
  · exact or_join 32 _ _ (by simp only [wsum, pw]; omega) (by simp only [wsum, pw]; omega) (by simp only [wsum, pw]; omega) (by simp only [pw]; omega) (by simp only [pw]; omega) (by simp only [pw]; omega)
  · exact or_join 24 _ _ (by simp only [wsum, pw]; omega) (by simp only [wsum, pw]; omega) (by simp only [wsum, pw]; omega) (by simp only [pw]; omega) (by simp only [pw]; omega) (by simp only [pw]; omega)
  · exact or_join 16 _ _ (by simp only [wsum, pw]; omega) (by simp only [wsum, pw]; omega) (by simp only [wsum, pw]; omega) (by simp only [pw]; omega) (by simp only [pw]; omega) (by simp only [pw]; omega)
  · exact or_join 8 _ _ (by simp only [wsum, pw]; omega) (by simp only [wsum, pw]; omega) (by simp only [wsum, pw]; omega) (by simp only [pw]; omega) (by simp only [pw]; omega) (by simp only [pw]; omega)
theorem shl_pw (t : Nat) (ht : t < 8) (x : Int) (hx : 0 ≤ x ∧ x < 256) : IntKind.u64.wrap (x * 2 ^ (56 - 8 * (t : Int)).toNat) = x * pw t := by
  have e : (2 : Int) ^ (56 - 8 * (t : Int)).toNat = pw t := by
    obtain rfl | rfl | rfl | rfl | rfl | rfl | rfl | rfl := lt8 ht <;> rfl
  rw [e, wrap_u64]
  obtain rfl | rfl | rfl | rfl | rfl | rfl | rfl | rfl := lt8 ht
  all_goals (simp only [pw]; omega)
/-- A byte out of its word. -/
theorem byte_out {bs : List Int} (h : B8 bs) (j t : Nat) (ht : t < 8) : wsum bs j 8 / pw t % 256 = bs.getD (8 * j + t) 0 := by
  have h0 := h (8 * j + 0); have h1 := h (8 * j + 1); have h2 := h (8 * j + 2); have h3 := h (8 * j + 3); have h4 := h (8 * j + 4); have h5 := h (8 * j + 5); have h6 := h (8 * j + 6); have h7 := h (8 * j + 7)
  obtain rfl | rfl | rfl | rfl | rfl | rfl | rfl | rfl := lt8 ht
  all_goals (simp only [wsum, pw]; omega)
/-- The words when so many bytes are laid. -/
def curB (bs : List Int) (i : Nat) : List Int := (bs.length : Int) :: (List.range ((bs.length + 7) / 8)).map (fun j => wsum bs j (min 8 (i - 8 * j)))
theorem curB_len (bs : List Int) (i : Nat) : (curB bs i).length = 1 + (bs.length + 7) / 8 := by simp [curB]; omega
theorem curB_zero (bs : List Int) : curB bs 0 = (bs.length : Int) :: List.replicate ((bs.length + 7) / 8) 0 := by
  unfold curB
  congr 1
  apply List.ext_getElem
  · simp
  · intro k h1 h2
    simp [wsum]
theorem curB_get (bs : List Int) (i : Nat) (hi : i < bs.length) : (curB bs i).getD (1 + i / 8) 0 = wsum bs (i / 8) (i % 8) := by
  have hk : i / 8 < (bs.length + 7) / 8 := by omega
  unfold curB
  rw [List.getD_eq_getElem?_getD, show 1 + i / 8 = i / 8 + 1 by omega, List.getElem?_cons_succ, List.getElem?_map, List.getElem?_range hk]
  simp only [Option.map_some, Option.getD_some]
  congr 1
  omega
theorem curB_succ (bs : List Int) (i : Nat) (hi : i < bs.length) : (curB bs i).set (1 + i / 8) (wsum bs (i / 8) (i % 8) + bs.getD i 0 * pw (i % 8)) = curB bs (i + 1) := by
  have hk : i / 8 < (bs.length + 7) / 8 := by omega
  apply List.ext_getElem?
  intro k
  rw [List.getElem?_set]
  by_cases e : 1 + i / 8 = k
  · subst e
    rw [if_pos rfl, if_pos (by rw [curB_len]; omega)]
    unfold curB
    rw [show 1 + i / 8 = i / 8 + 1 by omega, List.getElem?_cons_succ, List.getElem?_map, List.getElem?_range hk]
    simp only [Option.map_some]
    congr 1
    rw [show min 8 (i + 1 - 8 * (i / 8)) = i % 8 + 1 by omega]
    show _ = wsum bs (i / 8) (i % 8) + bs.getD (8 * (i / 8) + i % 8) 0 * pw (i % 8)
    rw [show 8 * (i / 8) + i % 8 = i by omega]
  · rw [if_neg e]
    unfold curB
    cases k with
    | zero => rfl
    | succ j =>
      rw [List.getElem?_cons_succ, List.getElem?_cons_succ, List.getElem?_map, List.getElem?_map]
      by_cases hj : j < (bs.length + 7) / 8
      · rw [List.getElem?_range hj]
        simp only [Option.map_some]
        congr 2
        omega
      · rw [List.getElem?_eq_none (by simp; omega)]
        rfl
/-- All of a binary's words. -/
def binWs (bs : List Int) : List Int := curB bs bs.length
theorem wsum_end (bs : List Int) (j t : Nat) : ∀ d, 8 * j + t ≥ bs.length → wsum bs j (t + d) = wsum bs j t := by
  intro d h
  induction d with
  | zero => rfl
  | succ d ih =>
    show wsum bs j (t + d) + bs.getD (8 * j + (t + d)) 0 * pw (t + d) = _
    rw [ih, List.getD_eq_getElem?_getD, List.getElem?_eq_none (by omega)]
    simp
theorem binWs_at (bs : List Int) (j : Nat) (hj : j < (bs.length + 7) / 8) : (binWs bs)[j + 1]? = some (wsum bs j 8) := by
  unfold binWs curB
  rw [List.getElem?_cons_succ, List.getElem?_map, List.getElem?_range hj]
  simp only [Option.map_some]
  congr 1
  by_cases h : 8 ≤ bs.length - 8 * j
  · rw [show min 8 (bs.length - 8 * j) = 8 by omega]
  · obtain ⟨d, hd⟩ : ∃ d, 8 = min 8 (bs.length - 8 * j) + d := ⟨8 - min 8 (bs.length - 8 * j), by omega⟩
    have := wsum_end bs j (min 8 (bs.length - 8 * j)) d (by omega)
    rw [← hd] at this
    exact this.symm
theorem curB_W64 {bs : List Int} (h : B8 bs) (hl : bs.length ≤ 1000000) (i : Nat) : W64 (curB bs i) := by
  intro x hx
  unfold curB at hx
  rcases List.mem_cons.1 hx with rfl | hx
  · omega
  · obtain ⟨j, _, rfl⟩ := List.mem_map.1 hx
    exact wsum_bd h j _ (by omega)
theorem made_nums (m : Nat) : madeCells #[Value.int IntKind.u64 0] m = (nums .u64 (List.replicate m 0)).toArray := by
  simp [nums, madeCells]
  apply Array.ext
  · simp
  · intro i h1 h2
    simp [Nat.mod_one]
set_option maxHeartbeats 8000000 in
set_option maxRecDepth 100000 in
theorem bytes_calls (w : World) (B h g gw m : Nat) (v : Value) (l : List Int) (n : Nat) (ns : List ByteArray) (A : Option Addr) (c : Nat) (bs : List Int) (H : Hp B w h g gw m v l n ns) (hl : bs.length ≤ 100000)
    (hr : ReadsInt w .u8 A bs.length bs) (hc : bs.length ≤ c) (h8 : B8 bs) :
    Calls Try.prog 28 #[.pointer (some ⟨h, 0, none⟩), .slice A bs.length c] w fun e w' => e = .returned (.tuple #[.int .u64 (objR 2 l n (boxWs 4 (binWs bs))).1, .bool (objR 2 l n (boxWs 4 (binWs bs))).2]) ∧ Hp B w' h g gw m v (objL l n (boxWs 4 (binWs bs))) n ns ∧ Mods (SH h g gw m v) w w' := by
  have HH := Aside0.mk H
  have HR := Aside0.mk hr
  have H8 := Aside0.mk h8
  obtain ⟨len, hlen⟩ : ∃ len, bs.length = len := ⟨_, rfl⟩
  obtain ⟨mm, hmm⟩ : ∃ mm, 1 + (len + 7) / 8 = mm := ⟨_, rfl⟩
  have HLEN := Aside0.mk hlen
  rw [hlen] at HR hl hc ⊢
  have hmk := print_make (P := Try.prog) 57 25 .u64 8 Try.underlying57 Go.Proofs.YtlifdpfhepamfaaAr.info64 (by decide) mm (by omega)
  have e4 : (1 + ((len : Int) + 8 - 1) / 8) = (mm : Int) := by omega
  have hm1 : (0 : Int) < mm := by omega
  obtain ⟨W0, hW0⟩ : ∃ W0, w.alloc (.cells (madeCells #[Value.int IntKind.u64 0] mm) 25) = W0 := ⟨_, rfl⟩
  obtain ⟨gb, hgb⟩ : ∃ gb, w.heap.size = gb := ⟨_, rfl⟩
  have h0 : W0.heap[gb]? = some (.cells (nums .u64 (List.replicate mm 0)).toArray 25 (0, 0)) := by rw [← hW0, ← hgb, ← made_nums]; exact heap_alloc_new _ _
  have hb : Below w.heap.size w W0 := by rw [← hW0]; exact below_alloc (Below.refl _ _) _
  have c0 : W0.cell? ⟨gb, 0, none⟩ = some (.int .u64 0) := by
    rw [nums_cell h0 0 (by rw [List.length_replicate]; omega), List.getD_eq_getElem?_getD, List.getElem?_replicate, if_pos (by omega)]
    rfl
  have f0 := blk_frozen h0 0
  have HB0 := Aside0.mk hb
  have H0 := Aside0.mk h0
  clear H hr h8 hlen hb h0
  go_enter Try.func28, Try.ntmps28
  go_wp2_with fail
  obtain ⟨W1, hW1⟩ : ∃ W1, W0.setCell ⟨gb, 0, none⟩ (.int .u64 (len : Int)) = W1 := ⟨_, rfl⟩
  rw [hW1]
  have hst : W1.heap[gb]? = some (.cells (nums .u64 (curB bs 0)).toArray 25 (0, 0)) := by
    rw [← hW1, blk_set H0.out 0 _, nums_set]
    congr 4
    rw [curB_zero, HLEN.out, ← hmm, Nat.add_comm, List.replicate_succ]
    rfl
  have hbl : Below w.heap.size w W1 := by rw [← hW1]; exact HB0.out.setCell (by rw [← hgb]; exact Nat.le_refl _) _
  have HL0 := Aside0.mk (And.intro hst hbl)
  clear hst hbl hW1 c0 f0 hW0
  go_loopg [23] len (fun q v23 wr => ∃ i : Nat, q = len - i ∧ i ≤ len ∧ v23 = .int .i64 i ∧ Aside0 (wr.heap[gb]? = some (.cells (nums .u64 (curB bs i)).toArray 25 (0, 0)) ∧ Below w.heap.size w wr))
  case atStart => exact ⟨0, by omega, by omega, rfl, HL0⟩
  case round =>
    clear HL0
    obtain ⟨i, rfl, hi, rfl, HL⟩ := hrel
    by_cases hlt : i < len
    · have b1 : (i : Int) < (len : Int) := by omega
      obtain ⟨ad, ea, hcell⟩ := HR.out.at_ (i : Int) (by omega) (by omega)
      subst ea
      rw [Int.toNat_natCast, show rd bs (i : Int) = bs.getD i 0 from by unfold rd; rw [Int.toNat_natCast]] at hcell
      have hcw := pw_cell_below HL.out.2 hcell
      have hjl : 1 + i / 8 < (curB bs i).length := by rw [curB_len, HLEN.out]; omega
      have hd := nums_cell HL.out.1 (1 + i / 8) hjl
      rw [curB_get bs i (by rw [HLEN.out]; exact hlt)] at hd
      have hfz := blk_frozen HL.out.1 (1 + i / 8)
      have hx8 := H8.out i
      have ed : ((i : Int) / 8) = ((i / 8 : Nat) : Int) := by omega
      have em : (i : Int).tmod 8 = ((i % 8 : Nat) : Int) := by rw [Int.tmod_eq_emod_of_nonneg (by omega)]; omega
      have hsucc := curB_succ bs i (by rw [HLEN.out]; exact hlt)
      have hor := or_step H8.out (i / 8) (i % 8) (by omega) (bs.getD i 0) hx8
      have hwb := wsum_bd H8.out (i / 8) (i % 8) (by omega)
      have hj1 : 1 + i / 8 < mm := by omega
      have ht : i % 8 < 8 := by omega
      have HI8 := Aside0.mk (show 8 * (i / 8) + i % 8 = i by omega)
      generalize i / 8 = j at ed hd hfz hsucc hor hwb hj1
      generalize i % 8 = t at em hor hwb hsucc hd ht
      generalize bs.getD i 0 = x at hcw hx8 hsucc hor
      generalize wsum bs j t = y at hd hor hwb hsucc
      have q1 : IntKind.i64.wrap (j : Int) = (j : Int) := by rw [IntKind.wrap_i64]; omega
      have q2 : IntKind.i64.wrap (1 + (j : Int)) = 1 + (j : Int) := by rw [IntKind.wrap_i64]; omega
      have q3 : IntKind.i64.wrap (t : Int) = (t : Int) := by rw [IntKind.wrap_i64]; omega
      have q4 : IntKind.i64.wrap (8 * (t : Int)) = 8 * (t : Int) := by rw [IntKind.wrap_i64]; omega
      have q5 : IntKind.i64.wrap (56 - 8 * (t : Int)) = 56 - 8 * (t : Int) := by rw [IntKind.wrap_i64]; omega
      have q6 : IntKind.u64.wrap x = x := by rw [wrap_u64]; omega
      have q10 : IntKind.u64.wrap (x * 2 ^ (56 - 8 * (t : Int)).toNat) = x * pw t := shl_pw t ht x hx8
      have q7 : 1 + (j : Int) < (mm : Int) := by omega
      have q8 : 0 ≤ 1 + (j : Int) := by omega
      have q9 : (1 + (j : Int)).toNat = 1 + j := by omega
      clear hcell hjl
      go_wp2_with fail
      go_still_tail 15, (by kernel_rfl)
      change wpList _ _ _ _ _ wr.drew
      clear q1 q2 q3 q4 q5 q6 q7 q8 q9 q10 ed em hcw
      have hst : ((wr.drew).setCell ⟨gb, 1 + j, none⟩ (.int .u64 (y + x * pw t))).heap[gb]? = some (.cells (nums .u64 (curB bs (i + 1))).toArray 25 (0, 0)) := by
        rw [blk_set (w := wr.drew) HL.out.1 (1 + j) _, nums_set, hsucc]
      have hbl : Below w.heap.size w ((wr.drew).setCell ⟨gb, 1 + j, none⟩ (.int .u64 (y + x * pw t))) := (below_drew HL.out.2).setCell (by rw [← hgb]; exact Nat.le_refl _) _
      have HL2 := Aside0.mk (And.intro hst hbl)
      clear hst hbl hsucc hor HL
      go_wp2_with fail
      go_roundg (len - (i + 1))
      case measure => omega
      case rel => exact ⟨i + 1, rfl, by omega, by go_num, HL2⟩
    · obtain rfl : i = len := by omega
      have b1 : ¬ (i : Int) < (i : Int) := by omega
      have hw : binWs bs = curB bs i := by unfold binWs; rw [HLEN.out]
      have hm : (curB bs i).length = mm := by rw [curB_len, HLEN.out]; exact hmm
      have HBX := Aside0.mk (box_calls wr B h g gw m v l n ns 4 (some ⟨gb, 0, none⟩) mm (curB bs i) (HH.out.below HL.out.2) (by omega) (by rw [hm]; omega) (by have q := reads_blk HL.out.1 (curB bs i).length (Nat.le_refl _) (by omega); rwa [List.take_length] at q) (by omega) (curB_W64 H8.out (by rw [HLEN.out]; omega) i))
      rw [← hw] at HBX
      have hm2 : (binWs bs).length = mm := by rw [hw]; exact hm
      rw [hm2] at HBX
      have HBL := Aside0.mk HL.out.2
      clear hw hm hm2 HL
      go_wp2_with fail
      refine HBX.out.mono ?_
      rintro e w7 ⟨rfl, hh, hm⟩
      have HF := Aside0.mk (And.intro hh ((Mods.of_below _ HBL.out).trans hm))
      clear hh hm
      go_wp2_with fail
      go_ret2
      exact ⟨rfl, HF.out⟩
end Go.Proofs.YtlifdpfhepamfaaHb
