/- The reader of terms: words, binaries. -/
import Derived.Test.YtlifdpfhepamfaaHb
import Derived.Laws.BytesArg
import Derived.Laws.ResultCell
namespace Go.Proofs.YtlifdpfhepamfaaRd
open Go.RowKit Go.Maps Go.Proofs.YtlifdpfhepamfaaW.PrintWords Go.Proofs.YtlifdpfhepamfaaW.PrintLast Go.Proofs.YtlifdpfhepamfaaW.PrintMore Go.Proofs.YtlifdpfhepamfaaMem Go.Proofs.YtlifdpfhepamfaaLeaf Go.Proofs.YtlifdpfhepamfaaBits Go.Proofs.Ytlifdpfhepamfaa.PHe Go.Proofs.YtlifdpfhepamfaaRow Go.Proofs.YtlifdpfhepamfaaAr Go.Proofs.YtlifdpfhepamfaaHp Go.Proofs.YtlifdpfhepamfaaHo Go.Proofs.YtlifdpfhepamfaaWd Go.Proofs.YtlifdpfhepamfaaHb Go.Proofs
set_option linter.unusedVariables false
set_option linter.unusedSimpArgs false
/-- A reader's block. -/
def rdB (h : Nat) (lf : Int) : Obj := .cells #[.pointer (some ⟨h, 0, none⟩), .int .i64 lf] 128 (0, 0)
def WordsPost (w : World) (cnt : Nat) (xs : List Int) (e : Ending) (w' : World) : Prop :=
  ∃ A c, e = .returned (.slice A cnt c) ∧ cnt ≤ c ∧ ReadsInt w' .u64 A cnt xs ∧ (∀ ad, A = some ad → w.heap.size ≤ ad.block) ∧ Below w.heap.size w w'
set_option maxHeartbeats 8000000 in
set_option maxRecDepth 100000 in
theorem words_calls (w : World) (B h g gw m : Nat) (v : Value) (l : List Int) (n : Nat) (ns : List ByteArray) (r : Nat) (lf : Int) (a f cnt : Nat) (H : Hp B w h g gw m v l n ns) (hr : w.heap[r]? = some (rdB h lf)) (hle : a + f + cnt ≤ l.length) :
    Calls Try.prog 154 #[.pointer (some ⟨r, 0, none⟩), .int .i64 (a : Int), .int .i64 (f : Int), .int .i64 (cnt : Int)] w (WordsPost w cnt ((l.drop (a + f)).take cnt)) := by
  have HH := Aside0.mk H
  have HR := Aside0.mk hr
  have hn := H.ar.2.2.1
  have hn2 := H.ar.2.2.2.1
  have HLE := Aside0.mk hle
  have hl : l.length ≤ 32768 := by omega
  clear H hr
  go_enter Try.func154, Try.ntmps154
  go_wp2_with fail
  go_loopg [9, 12] cnt (fun q v9 v12 wr => ∃ i : Nat, q = cnt - i ∧ i ≤ cnt ∧ v12 = .int .i64 i ∧ Aside0 (wr.ownsRow w.heap.size 25 1 v9 ((l.drop (a + f)).take i).length (nums .u64 ((l.drop (a + f)).take i)) ∧ Below w.heap.size w wr))
  case atStart => exact ⟨0, by omega, by omega, rfl, ⟨⟨rfl, .inl ⟨rfl, rfl⟩⟩, Below.refl _ _⟩⟩
  case round =>
    obtain ⟨i, rfl, hi, rfl, HL⟩ := hrel
    by_cases hlt : i < cnt
    · have b1 : (i : Int) < (cnt : Int) := by omega
      have HH1 := Aside0.mk (HH.out.below HL.out.2)
      have hr1 : wr.heap[r]? = some (rdB h lf) := (HL.out.2.block _ (blk_lt HR.out)).trans HR.out
      have c0 : wr.cell? ⟨r, 0, none⟩ = some (.pointer (some ⟨h, 0, none⟩)) := (blk_cell hr1 0).trans rfl
      obtain ⟨d0, _, _, _⟩ := HH1.out.cells
      have hwa : wordA l ((a : Int) + (f : Int) + (i : Int)) = l.getD (a + f + i) 0 := by
        unfold wordA
        rw [if_pos (by omega), show ((a : Int) + (f : Int) + (i : Int)).toNat = a + f + i by omega]
      have hq := Go.Proofs.YtlifdpfhepamfaaAr.word_calls wr g gw n l ((a : Int) + (f : Int) + (i : Int)) HH1.out.ar
      rw [hwa] at hq
      have HQ := Aside0.mk hq
      have htk : (l.drop (a + f)).take (i + 1) = (l.drop (a + f)).take i ++ [l.getD (a + f + i) 0] := by
        rw [List.take_add_one, List.getElem?_drop, List.getElem?_eq_getElem (by omega), List.getD_eq_getElem?_getD, List.getElem?_eq_getElem (by omega)]
        rfl
      have HTK := Aside0.mk htk
      have htl : ((l.drop (a + f)).take i).length = i := by rw [List.length_take, List.length_drop]; omega
      have HTL := Aside0.mk htl
      generalize l.getD (a + f + i) 0 = x at HQ HTK
      have e1 : wrap64 ((a : Int) + (f : Int)) = (a : Int) + (f : Int) := by unfold wrap64; omega
      have e2 : wrap64 ((a : Int) + (f : Int) + (i : Int)) = (a : Int) + (f : Int) + (i : Int) := by unfold wrap64; omega
      clear hwa hq htk htl hr1
      go_wp2_with fail
      refine HQ.out.mono ?_
      rintro e w2 ⟨rfl, nd, rfl⟩
      obtain ⟨W5, hW5⟩ : ∃ W5, (wr.drewN nd).alloc (.cells #[.int .u64 x] 25) = W5 := ⟨_, rfl⟩
      have HOW5 := Aside0.mk (show W5.ownsRow w.heap.size 25 1 _ ((l.drop (a + f)).take i).length (nums .u64 ((l.drop (a + f)).take i)) from hW5 ▸ World.ownsRow.alloc (w := wr.drewN nd) HL.out.1 _)
      have HB5 := Aside0.mk (show Below w.heap.size w W5 from hW5 ▸ below_alloc (pw_below_drewN HL.out.2 nd) _)
      have HRD5 : Aside0 (ReadsInt W5 .u64 (some ⟨wr.heap.size, 0, none⟩) 1 [x]) := ⟨by rw [← hW5]; exact reads_blk (xs := [x]) (heap_alloc_new (wr.drewN nd) _) 1 (by simp) (by omega)⟩
      clear c0 d0
      go_wp2_with (at_builtin; refine print_append_row (w0 := w) w.heap.size rfl (.tmp 15) (.tmp 29) 57 25 .u64 8 rfl Try.underlying57 Go.Proofs.YtlifdpfhepamfaaAr.info64 (by decide) _ ((l.drop (a + f)).take i) [x] (some ⟨wr.heap.size, 0, none⟩) 1 1 rfl rfl HOW5.out HRD5.out HB5.out HB5.out.size (by have := HTL.out; omega) ?_; intro v1 w6 hown6 hb6 hg6 hat6)
      go_roundg (cnt - (i + 1))
      case measure => omega
      case rel => exact ⟨i + 1, rfl, by omega, by go_num, ⟨by rw [HTK.out]; exact hown6, hb6⟩⟩
    · obtain rfl : i = cnt := by omega
      have b1 : ¬ (i : Int) < (i : Int) := by omega
      have htl : ((l.drop (a + f)).take i).length = i := by rw [List.length_take, List.length_drop]; omega
      obtain ⟨A3, c3, hv3, hc3, hr3, hba3⟩ := Go.Proofs.YtlifdpfhepamfaaRowK.Row.reads (Row.of_own HL.out.1)
      rw [htl] at hv3 hc3 hr3
      subst hv3
      have HF := Aside0.mk (And.intro hc3 (And.intro hr3 (And.intro hba3 HL.out.2)))
      clear htl hc3 hr3 hba3 HL
      go_wp2_with fail
      go_ret
      exact ⟨A3, c3, rfl, HF.out.1, HF.out.2.1, HF.out.2.2.1, HF.out.2.2.2⟩
/-- The results of a function that has a structure and a Bool: the structure lies in a block. -/
theorem results_cell2 {P : Program} {fn : Func} {p u : Tmp} {ty : TypeId} (h : fn.results = #[.cell p ty, .tmp u]) (tmps : Array Value) (w : World) (g : Nat) (t : TypeId) (cs : Array Value) (fr : Nat × Nat) (d : TypeDesc)
    (hp : tmps.getD p undef = .pointer (some ⟨g, 0, none⟩)) (hg : w.heap[g]? = some (.cells cs t fr))
    (hu : P.underlying ty = some d) (hd : (match d with | .struct _ | .array _ _ => true | _ => false) = true) (hi : (P.info? ty).map (·.size) = some cs.size) :
    (results fn tmps).run P w = .ok (.tuple #[.agg cs, tmps.getD u undef]) w := by
  rw [results_cell_tmp h, hp]
  simp [asAddr, Result.andThen, run_loadVar_row w g t ty cs fr d hg hu hd hi]
theorem six_put {w : World} {g : Nat} {a b c d e f a' b' c' d' e' f' : Value} {t : TypeId} (h : w.heap[g]? = some (.cells #[a, b, c, d, e, f] t (0, 0))) :
    ((((((w.setCell ⟨g, 0, none⟩ a').setCell ⟨g, 1, none⟩ b').setCell ⟨g, 2, none⟩ c').setCell ⟨g, 3, none⟩ d').setCell ⟨g, 4, none⟩ e').setCell ⟨g, 5, none⟩ f').heap[g]? = some (.cells #[a', b', c', d', e', f'] t (0, 0)) :=
  blk_put (blk_put (blk_put (blk_put (blk_put (blk_put h 0 a' rfl) 1 b' rfl) 2 c' rfl) 3 d' rfl) 4 e' rfl) 5 f' rfl
theorem below_six {w W : World} {B g : Nat} {a b c d e f : Value} (h : Below B w W) (hg : B ≤ g) : Below B w ((((((W.setCell ⟨g, 0, none⟩ a).setCell ⟨g, 1, none⟩ b).setCell ⟨g, 2, none⟩ c).setCell ⟨g, 3, none⟩ d).setCell ⟨g, 4, none⟩ e).setCell ⟨g, 5, none⟩ f) :=
  (((((h.setCell hg _).setCell hg _).setCell hg _).setCell hg _).setCell hg _).setCell hg _
theorem info8 : (Try.prog.info? 5).map (fun i => (i.zero, i.size, i.bytes)) = some (some (.int .u8 0), 1, 1) := by kernel_rfl
theorem made_u8 (m : Nat) : madeCells #[Value.int IntKind.u8 0] m = (nums .u8 (List.replicate m 0)).toArray := by
  simp [nums, madeCells]
  apply Array.ext
  · simp
  · intro i h1 h2
    simp [Nat.mod_one]
/-- Bytes as a text. -/
theorem conv_str (w : World) (src e : TypeId) (hs : Try.prog.underlying src = some (.slice e)) (he : Try.prog.underlying e = some (.int .u8)) (A : Option Addr) (c : Nat) (xs : List Int) (hr : ReadsInt w .u8 A xs.length xs) :
    ∀ dst, Try.prog.underlying dst = some .string → (convert src dst (.slice A xs.length c)).run Try.prog w = .ok (.string (strOfNums xs)) w := by
  intro dst hd
  by_cases h0 : xs.length = 0
  · obtain rfl : xs = [] := List.length_eq_zero_iff.1 h0
    rw [run_convert_bytes_string w src dst e _ _ c hs he hd]
    cases A with
    | none => simp [Conv.bytesToString]; rfl
    | some ad =>
      have q := run_bytesToString (P := Try.prog) w ad 0 c [] (by rfl)
      exact q
  · obtain ⟨_, _, h3⟩ := hr
    obtain ⟨ad, rfl, hcell⟩ := h3 (by omega)
    have hl : (loadCells ad xs.length).run Try.prog w = .ok (xs.map (Value.int .u8)).toArray w := by
      have := run_loadCells_list (P := Try.prog) w ad (xs.map (Value.int .u8)) (fun j v hj => by
        have hjl : j < xs.length := by
          rcases Nat.lt_or_ge j xs.length with h | h
          · exact h
          · simp [List.getElem?_eq_none (show (xs.map (Value.int .u8)).length ≤ j by simpa using h)] at hj
        rw [hcell j (by omega)]
        simp [List.getElem?_eq_getElem hjl] at hj
        subst hj
        simp [List.getD, List.getElem?_eq_getElem hjl])
      simpa using this
    rw [run_convert_bytes_string w src dst e _ _ c hs he hd, run_bytesToString w _ _ c xs hl, foldl_push_bytes]
    simp [strOfNums, ByteArray.empty, ByteArray.emptyWithCapacity]
    rfl
theorem bin_facts (len mm : Nat) (hl : len ≤ 100000) (hmm : 1 + (len + 7) / 8 = mm) : ∃ q8 : Nat, q8 ≤ 12501 ∧ mm ≤ 12502 ∧ ((len : Int) + 8 - 1).tdiv 8 = (q8 : Int) ∧ 1 + (q8 : Int) = (mm : Int) ∧ (0 : Int) < mm ∧ ((mm : Int) == 0) = false ∧ ¬ (8 * (mm : Int) < (len : Int)) := by
  refine ⟨(len + 7) / 8, by omega, by omega, by rw [Int.tdiv_eq_ediv_of_nonneg (by omega)]; omega, by omega, by omega, by rw [beq_eq_false_iff_ne]; omega, by omega⟩
def binV (S : ByteArray) : Value := .agg #[.int .i64 6, .bool false, .slice none 0 0, .string S, .int .i64 0, .slice none 0 0]
set_option maxHeartbeats 8000000 in
set_option maxRecDepth 100000 in
theorem binary_calls (w : World) (r : Value) (A : Option Addr) (c : Nat) (bs : List Int) (hl : bs.length ≤ 100000) (h8 : B8 bs) (hr : ReadsInt w .u64 A (binWs bs).length (binWs bs)) (hc : (binWs bs).length ≤ c) :
    Calls Try.prog 156 #[r, .slice A (binWs bs).length c] w fun e w' => e = .returned (.tuple #[binV (strOfNums bs), .bool true]) ∧ Below w.heap.size w w' := by
  have HR := Aside0.mk hr
  have H8 := Aside0.mk h8
  obtain ⟨len, hlen⟩ : ∃ len, bs.length = len := ⟨_, rfl⟩
  obtain ⟨mm, hmm⟩ : ∃ mm, 1 + (len + 7) / 8 = mm := ⟨_, rfl⟩
  have hbl : (binWs bs).length = mm := by unfold binWs; rw [curB_len, hlen]; exact hmm
  have HLEN := Aside0.mk hlen
  have h0 : (binWs bs).getD 0 0 = (len : Int) := by unfold binWs curB; rw [hlen]; rfl
  obtain ⟨ad, ea, hc0⟩ := hr.at_ 0 (by omega) (by omega)
  subst ea
  rw [show rd (binWs bs) 0 = (binWs bs).getD 0 0 from rfl, h0] at hc0
  have hcr : ∀ j, j < mm → w.cell? (ad.add j) = some (.int .u64 ((binWs bs).getD j 0)) := by
    intro j hj
    obtain ⟨ad', e, q⟩ := hr.at_ (j : Int) (by omega) (by omega)
    injection e with e
    subst e
    rwa [Int.toNat_natCast, show rd (binWs bs) (j : Int) = (binWs bs).getD j 0 from by unfold rd; rw [Int.toNat_natCast]] at q
  obtain ⟨W0, hW0⟩ : ∃ W0, w.alloc (.cells #[.int .i64 0, .bool false, .slice none 0 0, .string ⟨#[]⟩, .int .i64 0, .slice none 0 0] 43) = W0 := ⟨_, rfl⟩
  obtain ⟨gr, hgr⟩ : ∃ gr, w.heap.size = gr := ⟨_, rfl⟩
  have hr0 : W0.heap[gr]? = some (.cells #[.int .i64 0, .bool false, .slice none 0 0, .string ⟨#[]⟩, .int .i64 0, .slice none 0 0] 43 (0, 0)) := by rw [← hW0, ← hgr]; exact heap_alloc_new _ _
  have hb0 : Below w.heap.size w W0 := by rw [← hW0]; exact below_alloc (Below.refl _ _) _
  have hc00 : W0.cell? ad = some (.int .u64 (len : Int)) := pw_cell_below hb0 (by have q := hc0; rwa [show ad.add ((0 : Int).toNat) = ad by simp [Addr.add]] at q)
  have HCR := Aside0.mk hcr
  have HR0 := Aside0.mk hr0
  have HB0 := Aside0.mk hb0
  rw [hbl] at HR hc ⊢
  have hmk := print_make (P := Try.prog) 33 5 .u8 1 Try.underlying33 info8 (by decide) len (by omega)
  have hlb : len ≤ 100000 := by rw [← hlen]; exact hl
  obtain ⟨q8, hqb, hmb, e13, e4, hm1, hm2, hm3⟩ := bin_facts len mm hlb hmm
  clear hl hbl
  have HMM := Aside0.mk hmm
  clear hmm
  clear hr h8 hlen hc0 h0 hcr hr0 hb0
  obtain ⟨gb, hgb⟩ : ∃ gb, W0.heap.size = gb := ⟨_, rfl⟩
  obtain ⟨W1, hW1⟩ : ∃ W1, W0.alloc (.cells (madeCells #[Value.int IntKind.u8 0] len) 5) = W1 := ⟨_, rfl⟩
  have h1 : W1.heap[gb]? = some (.cells (nums .u8 (List.replicate len 0)).toArray 5 (0, 0)) := by rw [← hW1, ← hgb, ← made_u8]; exact heap_alloc_new _ _
  have hb1 : Below w.heap.size w W1 := by rw [← hW1]; exact below_alloc HB0.out _
  have hr1 : W1.heap[gr]? = some (.cells #[.int .i64 0, .bool false, .slice none 0 0, .string ⟨#[]⟩, .int .i64 0, .slice none 0 0] 43 (0, 0)) := by rw [← hW1]; exact blk_alloc HR0.out _
  have HGE := Aside0.mk (show w.heap.size ≤ gb from by rw [← hgb]; exact HB0.out.size)
  have HNE := Aside0.mk (show gb ≠ gr from fun e => by have := blk_lt HR0.out; omega)
  have HGR := Aside0.mk hgr
  have HL0 : Aside0 (W1.heap[gb]? = some (.cells (nums .u8 (bs.take 0 ++ List.replicate (len - 0) 0)).toArray 5 (0, 0)) ∧ W1.heap[gr]? = some (.cells #[.int .i64 0, .bool false, .slice none 0 0, .string ⟨#[]⟩, .int .i64 0, .slice none 0 0] 43 (0, 0)) ∧ Below w.heap.size w W1) := ⟨by simpa using h1, hr1, hb1⟩
  clear h1 hb1 hr1
  go_enter Try.func156, Try.ntmps156
  go_wp2_with fail
  go_loopg [40] len (fun q v40 wr => ∃ i : Nat, q = len - i ∧ i ≤ len ∧ v40 = .int .i64 i ∧ Aside0 (wr.heap[gb]? = some (.cells (nums .u8 (bs.take i ++ List.replicate (len - i) 0)).toArray 5 (0, 0)) ∧ wr.heap[gr]? = some (.cells #[.int .i64 0, .bool false, .slice none 0 0, .string ⟨#[]⟩, .int .i64 0, .slice none 0 0] 43 (0, 0)) ∧ Below w.heap.size w wr))
  case atStart => exact ⟨0, by omega, by omega, rfl, HL0⟩
  case round =>
    clear HL0
    obtain ⟨i, rfl, hi, rfl, HL⟩ := hrel
    by_cases hlt : i < len
    · have b1 : (i : Int) < (len : Int) := by omega
      have hj1 : 1 + i / 8 < mm := by have := HMM.out; omega
      have hcell := pw_cell_below HL.out.2.2 (HCR.out (1 + i / 8) hj1)
      have hws : (binWs bs).getD (1 + i / 8) 0 = wsum bs (i / 8) 8 := by
        rw [List.getD_eq_getElem?_getD, show 1 + i / 8 = i / 8 + 1 by omega, binWs_at bs (i / 8) (by rw [HLEN.out]; omega)]
        rfl
      rw [hws] at hcell
      have hby := byte_out H8.out (i / 8) (i % 8) (by omega)
      rw [show 8 * (i / 8) + i % 8 = i by omega] at hby
      have hx8 := H8.out i
      have hd := nums_cell HL.out.1 i (by simp [HLEN.out]; omega)
      have hset : (bs.take i ++ List.replicate (len - i) 0).set i (bs.getD i 0) = bs.take (i + 1) ++ List.replicate (len - (i + 1)) 0 := by
        have e1 : (bs.take i).length = i := by rw [List.length_take, HLEN.out]; omega
        have e2 : bs.take (i + 1) = bs.take i ++ [bs.getD i 0] := by
          rw [List.take_add_one, List.getElem?_eq_getElem (by rw [HLEN.out]; omega), List.getD_eq_getElem?_getD, List.getElem?_eq_getElem (by rw [HLEN.out]; omega)]
          rfl
        rw [List.set_append_right _ _ (by omega), e1, Nat.sub_self, show len - i = (len - (i + 1)) + 1 by omega, List.replicate_succ, List.set_cons_zero, e2, List.append_assoc]
        rfl
      have ed : ((i : Int) / 8) = ((i / 8 : Nat) : Int) := by omega
      have em : ((i : Int) % 8) = ((i % 8 : Nat) : Int) := by omega
      have ht : i % 8 < 8 := by omega
      have hyb := wsum_bd H8.out (i / 8) 8 (Nat.le_refl _)
      have HSET := Aside0.mk hset
      have hfz := blk_frozen HL.out.1 i
      clear hws hset
      generalize wsum bs (i / 8) 8 = y at hcell hby hyb
      generalize i / 8 = j at ed hcell hj1
      generalize i % 8 = t at em hby ht
      generalize bs.getD i 0 = x at hby hx8 HSET
      generalize (bs.take i ++ List.replicate (len - i) 0).getD i 0 = z at hd
      have hpw : y / 2 ^ (56 - 8 * t) % 256 = x := by
        rw [← hby]
        have e : (2 : Int) ^ (56 - 8 * t) = pw t := by
          obtain rfl | rfl | rfl | rfl | rfl | rfl | rfl | rfl := lt8 ht <;> rfl
        rw [e]
      have HPW := Aside0.mk hpw
      clear hby hpw
      go_wp2_with fail
      rw [HPW.out]
      have HL2 : Aside0 ((wr.setCell ⟨gb, i, none⟩ (.int .u8 x)).heap[gb]? = some (.cells (nums .u8 (bs.take (i + 1) ++ List.replicate (len - (i + 1)) 0)).toArray 5 (0, 0)) ∧ (wr.setCell ⟨gb, i, none⟩ (.int .u8 x)).heap[gr]? = some (.cells #[.int .i64 0, .bool false, .slice none 0 0, .string ⟨#[]⟩, .int .i64 0, .slice none 0 0] 43 (0, 0)) ∧ Below w.heap.size w (wr.setCell ⟨gb, i, none⟩ (.int .u8 x))) := ⟨by
        refine ⟨?_, ?_, HL.out.2.2.setCell HGE.out _⟩
        · rw [blk_set HL.out.1 i _, nums_set, HSET.out]
        · rw [blk_far HL.out.2.1 (p := ⟨gb, i, none⟩) (by first | exact HNE.out | exact Ne.symm HNE.out) _]⟩
      go_roundg (len - (i + 1))
      case measure => omega
      case rel => exact ⟨i + 1, rfl, by omega, by go_num, HL2⟩
    · obtain rfl : i = len := by omega
      have b1 : ¬ (i : Int) < (i : Int) := by omega
      have hall : bs.take i ++ List.replicate (i - i) 0 = bs := by rw [Nat.sub_self, ← HLEN.out, List.take_length]; simp
      rw [hall] at HL
      have hrd := reads_blk HL.out.1 bs.length (Nat.le_refl _) (by rw [HLEN.out]; omega)
      rw [List.take_length] at hrd
      have hcv := conv_str wr 33 5 Try.underlying33 Try.underlying5 (some ⟨gb, 0, none⟩) i bs hrd
      rw [HLEN.out] at hcv
      have hcv9 := hcv 9 Try.underlying9
      have g0 := blk_cell HL.out.2.1
      have g1 := blk_frozen HL.out.2.1
      clear hrd hcv hall
      have HBE := Aside0.mk HL.out.2.2
      have HGL := Aside0.mk (blk_lt HL.out.2.1)
      go_wp2_with fail
      refine bodyPost_ret (results_cell2 rfl _ _ gr 43 #[.int .i64 6, .bool false, .slice none 0 0, .string (strOfNums bs), .int .i64 0, .slice none 0 0] (0, 0) _ rfl (six_put HL.out.2.1) Try.underlying43 rfl (by kernel_rfl)) rfl ?_
      exact ⟨rfl, below_six (by first | exact HBE.out | (rw [← hgr]; exact HBE.out)) (by first | exact Nat.le_refl _ | (rw [hgr]; exact Nat.le_refl _))⟩
end Go.Proofs.YtlifdpfhepamfaaRd
