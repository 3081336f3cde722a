/- The reader of terms: words. -/
import Derived.Test.YtlifdpfhepamfaaWd
import Derived.Test.YtlifdpfhepamfaaHo
import Derived.WalkMore
import Derived.Laws.BytesArg
import Derived.Laws.ResultCell
namespace Go.Proofs.YtlifdpfhepamfaaRd
open Go.RowKit Go.Maps Go.Proofs.YtlifdpfhepamfaaW.PrintWords Go.Proofs.YtlifdpfhepamfaaW.PrintLast Go.Proofs.YtlifdpfhepamfaaW.PrintMore Go.Proofs.YtlifdpfhepamfaaMem Go.Proofs.YtlifdpfhepamfaaLeaf Go.Proofs.YtlifdpfhepamfaaBits Go.Proofs.Ytlifdpfhepamfaa.PHe Go.Proofs.YtlifdpfhepamfaaRow Go.Proofs.YtlifdpfhepamfaaAr Go.Proofs.YtlifdpfhepamfaaHp Go.Proofs.YtlifdpfhepamfaaHo Go.Proofs.YtlifdpfhepamfaaWd Go.Proofs
set_option linter.unusedVariables false
set_option linter.unusedSimpArgs false
/-- A reader's block. -/
def rdB (h : Nat) (lf : Int) : Obj := .cells #[.pointer (some ⟨h, 0, none⟩), .int .i64 lf] 128 (0, 0)
def WordsPost (w : World) (cnt : Nat) (xs : List Int) (e : Ending) (w' : World) : Prop :=
  ∃ A c, e = .returned (.slice A cnt c) ∧ cnt ≤ c ∧ ReadsInt w' .u64 A cnt xs ∧ (∀ ad, A = some ad → w.heap.size ≤ ad.block) ∧ Below w.heap.size w w'
set_option maxHeartbeats 8000000 in
set_option maxRecDepth 100000 in
theorem words_calls (w : World) (B h g gw m : Nat) (v : Value) (l : List Int) (n : Nat) (ns : List ByteArray) (r : Nat) (lf : Int) (a f cnt : Nat) (H : Hp B w h g gw m v l n ns) (hr : w.heap[r]? = some (rdB h lf)) (hle : a + f + cnt ≤ l.length) :
    Calls Try.prog 154 #[.pointer (some ⟨r, 0, none⟩), .int .i64 (a : Int), .int .i64 (f : Int), .int .i64 (cnt : Int)] w (WordsPost w cnt ((l.drop (a + f)).take cnt)) := by
  have HH := Aside0.mk H
  have HR := Aside0.mk hr
  have hn := H.ar.2.2.1
  have hn2 := H.ar.2.2.2.1
  have HLE := Aside0.mk hle
  have hl : l.length ≤ 32768 := by omega
  clear H hr
  go_enter Try.func154, Try.ntmps154
  go_wp2_with fail
  go_loopg [9, 12] cnt (fun q v9 v12 wr => ∃ i : Nat, q = cnt - i ∧ i ≤ cnt ∧ v12 = .int .i64 i ∧ Aside0 (wr.ownsRow w.heap.size 25 1 v9 ((l.drop (a + f)).take i).length (nums .u64 ((l.drop (a + f)).take i)) ∧ Below w.heap.size w wr))
  case atStart => exact ⟨0, by omega, by omega, rfl, ⟨⟨rfl, .inl ⟨rfl, rfl⟩⟩, Below.refl _ _⟩⟩
  case round =>
    obtain ⟨i, rfl, hi, rfl, HL⟩ := hrel
    by_cases hlt : i < cnt
    · have b1 : (i : Int) < (cnt : Int) := by omega
      have HH1 := Aside0.mk (HH.out.below HL.out.2)
      have hr1 : wr.heap[r]? = some (rdB h lf) := (HL.out.2.block _ (blk_lt HR.out)).trans HR.out
      have c0 : wr.cell? ⟨r, 0, none⟩ = some (.pointer (some ⟨h, 0, none⟩)) := (blk_cell hr1 0).trans rfl
      obtain ⟨d0, _, _, _⟩ := HH1.out.cells
      have hwa : wordA l ((a : Int) + (f : Int) + (i : Int)) = l.getD (a + f + i) 0 := by
        unfold wordA
        rw [if_pos (by omega), show ((a : Int) + (f : Int) + (i : Int)).toNat = a + f + i by omega]
      have hq := Go.Proofs.YtlifdpfhepamfaaAr.word_calls wr g gw n l ((a : Int) + (f : Int) + (i : Int)) HH1.out.ar
      rw [hwa] at hq
      have HQ := Aside0.mk hq
      have htk : (l.drop (a + f)).take (i + 1) = (l.drop (a + f)).take i ++ [l.getD (a + f + i) 0] := by
        rw [List.take_add_one, List.getElem?_drop, List.getElem?_eq_getElem (by omega), List.getD_eq_getElem?_getD, List.getElem?_eq_getElem (by omega)]
        rfl
      have HTK := Aside0.mk htk
      have htl : ((l.drop (a + f)).take i).length = i := by rw [List.length_take, List.length_drop]; omega
      have HTL := Aside0.mk htl
      generalize l.getD (a + f + i) 0 = x at HQ HTK
      have e1 : wrap64 ((a : Int) + (f : Int)) = (a : Int) + (f : Int) := by unfold wrap64; omega
      have e2 : wrap64 ((a : Int) + (f : Int) + (i : Int)) = (a : Int) + (f : Int) + (i : Int) := by unfold wrap64; omega
      clear hwa hq htk htl hr1
      go_wp2_with fail
      refine HQ.out.mono ?_
      rintro e w2 ⟨rfl, nd, rfl⟩
      obtain ⟨W5, hW5⟩ : ∃ W5, (wr.drewN nd).alloc (.cells #[.int .u64 x] 25) = W5 := ⟨_, rfl⟩
      have HOW5 := Aside0.mk (show W5.ownsRow w.heap.size 25 1 _ ((l.drop (a + f)).take i).length (nums .u64 ((l.drop (a + f)).take i)) from hW5 ▸ World.ownsRow.alloc (w := wr.drewN nd) HL.out.1 _)
      have HB5 := Aside0.mk (show Below w.heap.size w W5 from hW5 ▸ below_alloc (pw_below_drewN HL.out.2 nd) _)
      have HRD5 : Aside0 (ReadsInt W5 .u64 (some ⟨wr.heap.size, 0, none⟩) 1 [x]) := ⟨by rw [← hW5]; exact reads_blk (xs := [x]) (heap_alloc_new (wr.drewN nd) _) 1 (by simp) (by omega)⟩
      clear c0 d0
      go_wp2_with (at_builtin; refine print_append_row (w0 := w) w.heap.size rfl (.tmp 15) (.tmp 29) 57 25 .u64 8 rfl Try.underlying57 Go.Proofs.YtlifdpfhepamfaaAr.info64 (by decide) _ ((l.drop (a + f)).take i) [x] (some ⟨wr.heap.size, 0, none⟩) 1 1 rfl rfl HOW5.out HRD5.out HB5.out HB5.out.size (by have := HTL.out; omega) ?_; intro v1 w6 hown6 hb6 hg6 hat6)
      go_roundg (cnt - (i + 1))
      case measure => omega
      case rel => exact ⟨i + 1, rfl, by omega, by go_num, ⟨by rw [HTK.out]; exact hown6, hb6⟩⟩
    · obtain rfl : i = cnt := by omega
      have b1 : ¬ (i : Int) < (i : Int) := by omega
      have htl : ((l.drop (a + f)).take i).length = i := by rw [List.length_take, List.length_drop]; omega
      obtain ⟨A3, c3, hv3, hc3, hr3, hba3⟩ := Go.Proofs.YtlifdpfhepamfaaRowK.Row.reads (Row.of_own HL.out.1)
      rw [htl] at hv3 hc3 hr3
      subst hv3
      have HF := Aside0.mk (And.intro hc3 (And.intro hr3 (And.intro hba3 HL.out.2)))
      clear htl hc3 hr3 hba3 HL
      go_wp2_with fail
      go_ret
      exact ⟨A3, c3, rfl, HF.out.1, HF.out.2.1, HF.out.2.2.1, HF.out.2.2.2⟩
/-- The results of a function that has a structure and a Bool: the structure lies in a block. -/
theorem results_cell2 {P : Program} {fn : Func} {p u : Tmp} {ty : TypeId} (h : fn.results = #[.cell p ty, .tmp u]) (tmps : Array Value) (w : World) (g : Nat) (t : TypeId) (cs : Array Value) (fr : Nat × Nat) (d : TypeDesc)
    (hp : tmps.getD p undef = .pointer (some ⟨g, 0, none⟩)) (hg : w.heap[g]? = some (.cells cs t fr))
    (hu : P.underlying ty = some d) (hd : (match d with | .struct _ | .array _ _ => true | _ => false) = true) (hi : (P.info? ty).map (·.size) = some cs.size) :
    (results fn tmps).run P w = .ok (.tuple #[.agg cs, tmps.getD u undef]) w := by
  rw [results_cell_tmp h, hp]
  simp [asAddr, Result.andThen, run_loadVar_row w g t ty cs fr d hg hu hd hi]
theorem six_put {w : World} {g : Nat} {a b c d e f a' b' c' d' e' f' : Value} {t : TypeId} (h : w.heap[g]? = some (.cells #[a, b, c, d, e, f] t (0, 0))) :
    ((((((w.setCell ⟨g, 0, none⟩ a').setCell ⟨g, 1, none⟩ b').setCell ⟨g, 2, none⟩ c').setCell ⟨g, 3, none⟩ d').setCell ⟨g, 4, none⟩ e').setCell ⟨g, 5, none⟩ f').heap[g]? = some (.cells #[a', b', c', d', e', f'] t (0, 0)) :=
  blk_put (blk_put (blk_put (blk_put (blk_put (blk_put h 0 a' rfl) 1 b' rfl) 2 c' rfl) 3 d' rfl) 4 e' rfl) 5 f' rfl
theorem below_six {w W : World} {B g : Nat} {a b c d e f : Value} (h : Below B w W) (hg : B ≤ g) : Below B w ((((((W.setCell ⟨g, 0, none⟩ a).setCell ⟨g, 1, none⟩ b).setCell ⟨g, 2, none⟩ c).setCell ⟨g, 3, none⟩ d).setCell ⟨g, 4, none⟩ e).setCell ⟨g, 5, none⟩ f) :=
  (((((h.setCell hg _).setCell hg _).setCell hg _).setCell hg _).setCell hg _).setCell hg _
end Go.Proofs.YtlifdpfhepamfaaRd
