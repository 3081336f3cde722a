/- Which words are read as which terms: lists, numbers, nil; lists that were put are read. -/
import Derived.Test.YtlifdpfhepamfaaRe
import Derived.Test.YtlifdpfhepamfaaTl
import Derived.Test.YtlifdpfhepamfaaRgM
import Derived.Test.YtlifdpfhepamfaaHt
import Derived.Test.YtlifdpfhepamfaaHu
namespace Go.Proofs.YtlifdpfhepamfaaRl
open Go.RowKit Go.Maps Go.Proofs.YtlifdpfhepamfaaW.PrintWords Go.Proofs.YtlifdpfhepamfaaW.PrintLast Go.Proofs.YtlifdpfhepamfaaW.PrintMore Go.Proofs.YtlifdpfhepamfaaMem Go.Proofs.YtlifdpfhepamfaaLeaf Go.Proofs.YtlifdpfhepamfaaBits Go.Proofs.Ytlifdpfhepamfaa.PHe Go.Proofs.YtlifdpfhepamfaaRow Go.Proofs.YtlifdpfhepamfaaAr Go.Proofs.YtlifdpfhepamfaaHp Go.Proofs.YtlifdpfhepamfaaHn Go.Proofs.YtlifdpfhepamfaaHo Go.Proofs.YtlifdpfhepamfaaWd Go.Proofs.YtlifdpfhepamfaaRd Go.Proofs.YtlifdpfhepamfaaRt Go.Proofs.YtlifdpfhepamfaaNof Go.Proofs.YtlifdpfhepamfaaRe Go.Proofs
open Go.Proofs.YtlifdpfhepamfaaTl (kT six consT consL m_slices)
set_option linter.unusedVariables false
set_option linter.unusedSimpArgs false
abbrev TT := Go.Proofs.YtlifdpfhepamfaaTl.TT
/-- What the reader of a term hands back, where it reads one of so many nodes. -/
def RPost (w : World) (h r : Nat) (lf : Nat) (k : Nat) (t : TT) (e : Ending) (w' : World) : Prop :=
  ∃ v2 v5, e = .returned (.tuple #[.agg (six t v2 v5).toArray, .bool true]) ∧ kT.M w' w.heap.size (fun _ => True) t (six t v2 v5) ∧ Mods (fun k => k = r) w w' ∧ w'.heap[r]? = some (rdB h ((lf - k : Nat) : Int))
/-- A word is read as a term of so many nodes. -/
def Rds (B h g gw m : Nat) (v : Value) (l : List Int) (n : Nat) (ns : List ByteArray) (x : Int) (t : TT) (k : Nat) : Prop :=
  0 ≤ x ∧ x < 18446744073709551616 ∧ 0 < k ∧ ∀ (w : World) (r lf : Nat), Hp B w h g gw m v l n ns → w.heap[r]? = some (rdB h (lf : Int)) → ¬ SH h g gw m v r → k ≤ lf → lf ≤ 2000 →
    Calls Try.prog 94 #[.pointer (some ⟨r, 0, none⟩), .int .u64 x] w (RPost w h r lf k t)
/-- A cell: where a word leads to. -/
def Cell (l : List Int) (x p hx tx : Int) : Prop := 0 ≤ x ∧ x < 18446744073709551616 ∧ atI x = p ∧ 0 ≤ p ∧ p ≤ 40000 ∧ wordA l p = hx ∧ wordA l (p + 1) = tx
/-- Cells, one behind the other. -/
inductive Chain (l : List Int) (T : Int → TT → Nat → Prop) : Int → List TT → TT → Nat → Prop
  | last {x p hx tx : Int} {h t : TT} {nh nt : Nat} : Cell l x p hx tx → T hx h nh → tx % 4 ≠ 1 → T tx t nt → Chain l T x [h] t (nh + nt)
  | more {x p hx tx : Int} {h t : TT} {hs : List TT} {nh k : Nat} : Cell l x p hx tx → T hx h nh → tx % 4 = 1 → 0 ≤ tx → tx < 18446744073709551616 → goodI l tx = true → Chain l T tx hs t k → Chain l T x (h :: hs) t (nh + 1 + k)
theorem Chain.len {l : List Int} {T : Int → TT → Nat → Prop} {x : Int} {hs : List TT} {t : TT} {k : Nat} (h : Chain l T x hs t k) : hs.length ≤ k + 1 ∧ 0 < hs.length := by
  induction h with
  | last => simp
  | more _ _ _ _ _ _ _ ih => simp only [List.length_cons]; omega
theorem r_step {w w' : World} {base : Nat} {v : Value} {xs : List TT} (h : kT.R 43 w base (fun _ => True) v xs) (hm : ∀ k, base ≤ k → k < w.heap.size → w'.heap[k]? = w.heap[k]?) : kT.R 43 w' base (fun _ => True) v xs :=
  Kd.R_mono (Kd.R_step (Kd.R_bound h) (fun k hk hl => hm k hk.2.1 hl)) (fun _ _ => trivial)
theorem m_step {w w' : World} {base : Nat} {x : TT} {cs : List Value} (h : kT.M w base (fun _ => True) x cs) (hm : ∀ k, base ≤ k → k < w.heap.size → w'.heap[k]? = w.heap[k]?) : kT.M w' base (fun _ => True) x cs :=
  kT.M_mono (fun _ _ => trivial) (Kd.M_step (kT.M_bound h) (fun k hk hl => hm k hk.2.1 hl))
theorem six_far (w : World) (g k : Nat) (a b c d e f : Value) (hk : k ≠ g) : ((((((w.setCell ⟨g, 0, none⟩ a).setCell ⟨g, 1, none⟩ b).setCell ⟨g, 2, none⟩ c).setCell ⟨g, 3, none⟩ d).setCell ⟨g, 4, none⟩ e).setCell ⟨g, 5, none⟩ f).heap[k]? = w.heap[k]? := by
  rw [Below.heap_setCell _ _ _ _ hk, Below.heap_setCell _ _ _ _ hk, Below.heap_setCell _ _ _ _ hk, Below.heap_setCell _ _ _ _ hk, Below.heap_setCell _ _ _ _ hk, Below.heap_setCell _ _ _ _ hk]
theorem infoT : (Try.prog.info? 43).map (fun i => (i.zero, i.size, i.bytes)) = some (some (.agg #[.int .i64 0, .bool false, .slice none 0 0, .string ⟨#[]⟩, .int .i64 0, .slice none 0 0]), 6, 88) := by kernel_rfl
set_option maxHeartbeats 16000000 in
set_option maxRecDepth 100000 in
theorem list_ok (w : World) (B h g gw m : Nat) (v : Value) (l : List Int) (n : Nat) (ns : List ByteArray) (r : Nat) (lf : Nat) (x : Int) (hs : List TT) (t : TT) (k : Nat) (H : Hp B w h g gw m v l n ns) (hr : w.heap[r]? = some (rdB h (lf : Int))) (hrn : ¬ SH h g gw m v r) (hk : k ≤ lf) (hf1 : lf ≤ 2000)
    (hC : Chain l (Rds B h g gw m v l n ns) x hs t k) :
    Calls Try.prog 139 #[.pointer (some ⟨r, 0, none⟩), .int .u64 x] w (RPost w h r lf k (consL hs t)) := by
  obtain ⟨W0, hW0⟩ : ∃ W0, w.alloc (.cells #[.int .i64 0, .bool false, .slice none 0 0, .string ⟨#[]⟩, .int .i64 0, .slice none 0 0] 43) = W0 := ⟨_, rfl⟩
  obtain ⟨gr, hgr⟩ : ∃ gr, w.heap.size = gr := ⟨_, rfl⟩
  have hr0 : W0.heap[gr]? = some z6 := by rw [← hW0, ← hgr]; exact heap_alloc_new _ _
  have hb0 : Below w.heap.size w W0 := by rw [← hW0]; exact below_alloc (Below.refl _ _) _
  have hs0 : W0.heap.size = gr + 1 := by rw [← hW0, ← hgr]; exact Array.size_push _
  have hrr : W0.heap[r]? = some (rdB h (lf : Int)) := (hb0.block _ (blk_lt hr)).trans hr
  have hne : r ≠ gr := fun e => by have := blk_lt hr; omega
  have HG0 := Aside0.mk hr0
  have HR0 := Aside0.mk hrr
  have HM0 : Aside0 (Mods (fun k => k = r) w W0) := ⟨Mods.of_below _ hb0⟩
  have HH := Aside0.mk H
  have HRN := Aside0.mk hrn
  have HS0 := Aside0.mk hs0
  have HRL : Aside0 (r < gr) := ⟨by have := blk_lt hr; omega⟩
  have HC := Aside0.mk hC
  have hl0 : hs.length ≤ 2001 := by have := hC.len.1; omega
  have HK := Aside0.mk hk
  clear hr0 hb0 hs0 hrr H hrn hr hC hk
  go_enter Try.func139, Try.ntmps139
  go_wp2_with fail
  go_loopg [1, 6] hs.length (fun q v1 v6 wr => ∃ (y : Int) (ds rs : List TT) (k1 lf1 : Nat), q = rs.length ∧ v1 = .int .u64 y ∧ Aside0 (ds ++ rs = hs) ∧ Aside0 (Chain l (Rds B h g gw m v l n ns) y rs t k1) ∧ Aside0 (kT.R 43 wr (gr + 1) (fun _ => True) v6 ds) ∧ Aside0 (k1 ≤ lf1 ∧ lf1 ≤ 2000 ∧ lf1 - k1 = lf - k) ∧ Aside0 (wr.heap[r]? = some (rdB h (lf1 : Int))) ∧ Aside0 (Mods (fun k => k = r) w wr) ∧ Aside0 (wr.heap[gr]? = some z6))
  case atStart => exact ⟨x, [], hs, k, lf, rfl, rfl, ⟨rfl⟩, HC, ⟨Kd.R_nil _ _ _ _ _⟩, ⟨HK.out, hf1, rfl⟩, HR0, HM0, HG0⟩
  case round =>
    clear HC HK HR0 HM0 HG0
    obtain ⟨y, ds, rs, k1, lf1, rfl, rfl, HDR, HC, HROW, HN, HR, HM, HG⟩ := hrel
    obtain ⟨p, hx, tx, hd, nh, hcell, hT, hrest⟩ : ∃ (p hx tx : Int) (hd : TT) (nh : Nat), Cell l y p hx tx ∧ Rds B h g gw m v l n ns hx hd nh ∧ ((tx % 4 ≠ 1 ∧ ∃ nt, Rds B h g gw m v l n ns tx t nt ∧ rs = [hd] ∧ k1 = nh + nt) ∨ (tx % 4 = 1 ∧ goodI l tx = true ∧ 0 ≤ tx ∧ tx < 18446744073709551616 ∧ ∃ hs2 k2, Chain l (Rds B h g gw m v l n ns) tx hs2 t k2 ∧ rs = hd :: hs2 ∧ k1 = nh + 1 + k2)) := by
      cases HC.out with
      | last c a b d => exact ⟨_, _, _, _, _, c, a, .inl ⟨b, _, d, rfl, rfl⟩⟩
      | more c a b b0 b1 d e => exact ⟨_, _, _, _, _, c, a, .inr ⟨b, d, b0, b1, _, _, e, rfl, rfl⟩⟩
    obtain ⟨y0, y1, hp, y4, y5, hwx, hwt⟩ := hcell
    obtain ⟨hx0, hx1, hnh, hTc⟩ := hT
    have hnh1 : nh ≤ lf1 := by have := HN.out; rcases hrest with ⟨_, nt, _, _, e⟩ | ⟨_, _, _, _, _, k2, _, _, e⟩ <;> omega
    have hh := HH.out.mods HM.out (fun i hi e => HRN.out (by rw [← e]; exact hi))
    have d0 : wr.cell? ⟨r, 0, none⟩ = some (.pointer (some ⟨h, 0, none⟩)) := (blk_cell HR.out 0).trans rfl
    have d1 := hh.cells.1
    have hat := at_eq _ y0 y1
    rw [hp] at hat
    have HAT := Aside0.mk (fun W => word_At.calls y p W hat)
    have HWD := Aside0.mk (fun nd => word_calls (wr.drewN nd) g gw n l p (hh.ar.drewN nd))
    rw [hwx] at HWD
    have HWD2 := Aside0.mk (fun (W : World) (hH : Hp B W h g gw m v l n ns) => word_calls W g gw n l (p + 1) hH.ar)
    rw [hwt] at HWD2
    have HTG := Aside0.mk (fun W => word_Tag.calls tx (tx % 4) W (tag_eq tx))
    have HTC := Aside0.mk hTc
    have HREST := Aside0.mk hrest
    have HNH := Aside0.mk (And.intro hnh hnh1)
    have HHH := Aside0.mk hh
    clear hh hat hp hwx hwt hTc hrest HC hnh hnh1
    go_wp2_with fail
    refine (HAT.out _).mono ?_
    rintro e w2 ⟨rfl, nd2, rfl⟩
    go_wp2_with fail
    refine (HWD.out _).mono ?_
    rintro e w3 ⟨rfl, nd3, rfl⟩
    have HX4 : Aside0 (Mods (fun _ => False) wr (wr.drewN (nd2 + nd3))) := ⟨(Mods.refl (fun _ => False) wr).drewN _⟩
    have HR4 := Aside0.mk (HX4.out.blk HR.out id)
    have HG4 := Aside0.mk (HX4.out.blk HG.out id)
    have HROW4 := Aside0.mk (Kd.R_drewN HROW.out (nd2 + nd3))
    have HM4 := Aside0.mk (HM.out.trans (HX4.out.mono (S' := fun k => k = r) (fun i hi => hi.elim)))
    have HH4 := Aside0.mk (HHH.out.mods HX4.out (fun _ _ => id))
    have HS4 : Aside0 (gr + 1 ≤ (wr.drewN (nd2 + nd3)).heap.size) := ⟨by have h1 := blk_lt HG4.out; omega⟩
    have HT := Aside0.mk (HTC.out (wr.drewN (nd2 + nd3)) r lf1 HH4.out HR4.out HRN.out HNH.out.2 HN.out.2.1)
    clear HAT HWD HR HG HM HROW HHH HX4 d0 d1 HTC
    go_wp2_with fail
    refine HT.out.mono ?_
    rintro e w5 ⟨v2, v5, rfl, hM5, hm5, hr5⟩
    obtain ⟨⟨C2, m2, c2, rfl⟩, C5, m5, c5, rfl⟩ := m_slices hM5
    have hg5 := hm5.blk HG4.out (fun e => hne e.symm)
    have hrow5 := r_step HROW4.out (fun k hk hlt => hm5.block k hlt (by have := HRL.out; omega))
    obtain ⟨gq, hgq⟩ : ∃ gq, w5.heap.size = gq := ⟨_, rfl⟩
    obtain ⟨Wgq, hWgq⟩ : ∃ Wgq, w5.alloc (.cells #[.int .i64 0, .bool false, .slice none 0 0, .string ⟨#[]⟩, .int .i64 0, .slice none 0 0] 43) = Wgq := ⟨_, rfl⟩
    have hngq : Wgq.heap[gq]? = some (.cells #[.int .i64 0, .bool false, .slice none 0 0, .string ⟨#[]⟩, .int .i64 0, .slice none 0 0] 43 (0, 0)) := by rw [← hWgq, ← hgq]; exact heap_alloc_new _ _
    have hbgq : Below w5.heap.size w5 Wgq := by rw [← hWgq]; exact below_alloc (Below.refl _ _) _
    have mgq := six_put (a' := .int .i64 hd.f0) (b' := .bool hd.f1.f0) (c' := (.slice C2 m2 c2)) (d' := .string hd.f2) (e' := .int .i64 hd.f3) (f' := .slice C5 m5 c5) hngq
    obtain ⟨qp0, qp1, qp2, qp3, qp4, qp5⟩ := six_cells hngq
    obtain ⟨qz0, qz1, qz2, qz3, qz4, qz5⟩ := six_live hngq
    obtain ⟨Vgq, hVgq⟩ : ∃ Vgq, (((((Wgq.setCell ⟨gq, 0, none⟩ (.int .i64 hd.f0)).setCell ⟨gq, 1, none⟩ (.bool hd.f1.f0)).setCell ⟨gq, 2, none⟩ ((.slice C2 m2 c2))).setCell ⟨gq, 3, none⟩ (.string hd.f2)).setCell ⟨gq, 4, none⟩ (.int .i64 hd.f3)).setCell ⟨gq, 5, none⟩ (.slice C5 m5 c5) = Vgq := ⟨_, rfl⟩
    rw [hVgq] at mgq
    have hcgq : Below w5.heap.size w5 Vgq := by rw [← hVgq]; exact below_six hbgq (by rw [hgq]; exact Nat.le_refl _)
    obtain ⟨qr0, qr1, qr2, qr3, qr4, qr5⟩ := six_cells mgq
    have HM6 := Aside0.mk ((HM4.out.trans hm5).then_below hcgq)
    have HG6 := Aside0.mk ((hcgq.block _ (blk_lt hg5)).trans hg5)
    have HR6 := Aside0.mk ((hcgq.block _ (blk_lt hr5)).trans hr5)
    have HROW6 := Aside0.mk (Kd.R_below hrow5 hcgq)
    have HE6 : Aside0 (kT.M Vgq (gr + 1) (fun kk => (wr.drewN (nd2 + nd3)).heap.size ≤ kk) hd (six hd (.slice C2 m2 c2) (.slice C5 m5 c5))) := ⟨Kd.M_below (kT.M_lower HS4.out (kT.M_mono (fun kk hk => hk.2.1) (kT.M_bound hM5))) hcgq⟩
    have HOB : Aside0 (∀ kk, (wr.drewN (nd2 + nd3)).heap.size ≤ kk → some kk ≠ u6.ownBlock) := ⟨fun kk hk e => by have := ((Kd.R_bound HROW4.out).1 kk e.symm).2.2.1; omega⟩
    have HS6 : Aside0 (gr + 1 ≤ Vgq.heap.size) := ⟨Nat.le_trans HS4.out (Nat.le_trans hm5.size hcgq.size)⟩
    have hb1 : ds.length ≤ 2001 := by have h1 := hl0; have h2 := congrArg List.length HDR.out; rw [List.length_append] at h2; omega
    have HB1 := Aside0.mk hb1
    have HF9 : Aside0 (∀ w9, Vgq.grownBy w9 u6.ownBlock → w9.heap[r]? = some (rdB h ((lf1 - nh : Nat) : Int)) ∧ w9.heap[gr]? = some z6 ∧ Mods (fun k => k = r) w w9 ∧ Hp B w9 h g gw m v l n ns) := ⟨fun w9 hg9 => by
      have h2 := HRL.out
      have hm9 := Mods.of_grown hg9
      have hbs : ∀ k, some k = u6.ownBlock → gr + 1 ≤ k := fun k e => ((Kd.R_bound HROW6.out).1 k e.symm).2.1
      have hmm := HM6.out.trans' hm9 (fun k hk => .inr (by have := hbs k hk; omega))
      exact ⟨hm9.blk HR6.out (fun e => by have := hbs r e; omega), hm9.blk HG6.out (fun e => by have := hbs gr e; omega), hmm, HH.out.mods hmm (fun i hi e => HRN.out (by rw [← e]; exact hi))⟩⟩
    clear hm5 hg5 hr5 hrow5 hngq hbgq hcgq mgq HT hM5
    unfold six
    go_wp2_with (at_builtin; refine Kd.R_append kT (w0 := Vgq) (gr + 1) rfl (.tmp 31) (.tmp 33) 32 43 _ 88 rfl Try.underlying32 infoT rfl (by decide) (by decide) _ ds hd [.int .i64 hd.f0, .bool hd.f1.f0, .slice C2 m2 c2, .string hd.f2, .int .i64 hd.f3, .slice C5 m5 c5] (fun _ => True) (fun kk => (wr.drewN (nd2 + nd3)).heap.size ≤ kk) rfl rfl HE6.out (fun kk hk => ⟨trivial, HOB.out kk hk⟩) (fun _ _ => trivial) HROW6.out (Below.refl _ _) HS6.out (by have := HB1.out; omega) ?_; intro v9 w9 hrow9 hbel9 hg9 hat9; have HQ9 := Aside0.mk (HF9.out w9 hg9); have HROW9 := Aside0.mk hrow9; have d0 : w9.cell? ⟨r, 0, none⟩ = some (.pointer (some ⟨h, 0, none⟩)) := (blk_cell HQ9.out.1 0).trans rfl; have d1 := HQ9.out.2.2.2.cells.1; clear hrow9 hg9 hat9 hbel9)
    refine (HWD2.out w9 HQ9.out.2.2.2).mono ?_
    rintro e w10 ⟨rfl, nd10, rfl⟩
    clear d0 d1
    go_wp2_with fail
    refine (HTG.out _).mono ?_
    rintro e w11 ⟨rfl, nd11, rfl⟩
    clear HF9 HOB HE6 HROW6 HR6 HG6 HM6 HS6 HROW4 HR4 HG4 HM4 HH4 HS4
    obtain ⟨w11, hw11⟩ : ∃ w11, w9.drewN (nd10 + nd11) = w11 := ⟨_, rfl⟩
    have hx11 : Mods (fun _ => False) w9 w11 := by rw [← hw11]; exact (Mods.refl (fun _ => False) w9).drewN _
    have hr11 := hx11.blk HQ9.out.1 id
    have hg11 := hx11.blk HQ9.out.2.1 id
    have hm11 : Mods (fun k => k = r) w w11 := HQ9.out.2.2.1.trans (hx11.mono (S' := fun k => k = r) (fun i hi => hi.elim))
    have hh11 := HQ9.out.2.2.2.mods hx11 (fun _ _ => id)
    have HROW11 : Aside0 (kT.R 43 w11 (gr + 1) (fun _ => True) v9 (ds ++ [hd])) := ⟨by rw [← hw11]; exact Kd.R_drewN HROW9.out _⟩
    have HS11 : Aside0 (gr + 1 ≤ w11.heap.size) := ⟨by have := blk_lt hg11; omega⟩
    rcases HREST.out with ⟨ht1, nt, hT2, hrs, hk1⟩ | ⟨ht1, hgd, ht0, ht2, hs2, k2, hC2, hrs, hk1⟩
    · obtain ⟨tx0, tx1, hnt, hTt⟩ := hT2
      have hN := HN.out
      have hT := hTt w11 r (lf1 - nh) hh11 hr11 HRN.out (by omega) (by omega)
      have HT := Aside0.mk hT
      have HR11 := Aside0.mk hr11
      have HG11 := Aside0.mk hg11
      have HM11 := Aside0.mk hm11
      have HDR2 : Aside0 (ds ++ [hd] = hs) := ⟨by rw [← HDR.out, hrs]⟩
      have HLF : Aside0 (lf1 - nh - nt = lf - k) := ⟨by omega⟩
      rw [HDR2.out] at HROW11
      clear hT hTt hr11 hg11 hm11 hh11 hx11 hN hrs hk1 hnt
      go_wp2_with fail
      refine HT.out.mono ?_
      rintro e w12 ⟨u2, u5, rfl, hM12, hm12, hr12⟩
      obtain ⟨⟨D2, p2, b2, rfl⟩, D5, p5, b5, rfl⟩ := m_slices hM12
      have hg12 := hm12.blk HG11.out (fun e => hne e.symm)
      obtain ⟨gx, hgx⟩ : ∃ gx, w12.heap.size = gx := ⟨_, rfl⟩
      obtain ⟨Wgx, hWgx⟩ : ∃ Wgx, w12.alloc (.cells #[.int .i64 0, .bool false, .slice none 0 0, .string ⟨#[]⟩, .int .i64 0, .slice none 0 0] 43) = Wgx := ⟨_, rfl⟩
      have hngx : Wgx.heap[gx]? = some (.cells #[.int .i64 0, .bool false, .slice none 0 0, .string ⟨#[]⟩, .int .i64 0, .slice none 0 0] 43 (0, 0)) := by rw [← hWgx, ← hgx]; exact heap_alloc_new _ _
      have hbgx : Below w12.heap.size w12 Wgx := by rw [← hWgx]; exact below_alloc (Below.refl _ _) _
      have mgx := six_put (a' := .int .i64 t.f0) (b' := .bool t.f1.f0) (c' := (.slice D2 p2 b2)) (d' := .string t.f2) (e' := .int .i64 t.f3) (f' := .slice D5 p5 b5) hngx
      obtain ⟨xp0, xp1, xp2, xp3, xp4, xp5⟩ := six_cells hngx
      obtain ⟨xz0, xz1, xz2, xz3, xz4, xz5⟩ := six_live hngx
      obtain ⟨Vgx, hVgx⟩ : ∃ Vgx, (((((Wgx.setCell ⟨gx, 0, none⟩ (.int .i64 t.f0)).setCell ⟨gx, 1, none⟩ (.bool t.f1.f0)).setCell ⟨gx, 2, none⟩ ((.slice D2 p2 b2))).setCell ⟨gx, 3, none⟩ (.string t.f2)).setCell ⟨gx, 4, none⟩ (.int .i64 t.f3)).setCell ⟨gx, 5, none⟩ (.slice D5 p5 b5) = Vgx := ⟨_, rfl⟩
      rw [hVgx] at mgx
      have hcgx : Below w12.heap.size w12 Vgx := by rw [← hVgx]; exact below_six hbgx (by rw [hgx]; exact Nat.le_refl _)
      obtain ⟨xr0, xr1, xr2, xr3, xr4, xr5⟩ := six_cells mgx
      have HROWX := Aside0.mk (Kd.R_below (r_step HROW11.out (fun kk hkk hlt => hm12.block kk hlt (by have := HRL.out; omega))) hcgx)
      have HMX := Aside0.mk (m_step (Kd.M_below (kT.M_lower HS11.out hM12) hcgx) (fun _ _ _ => rfl))
      have HSX : Aside0 (gr + 1 ≤ Vgx.heap.size) := ⟨Nat.le_trans HS11.out (Nat.le_trans hm12.size hcgx.size)⟩
      have HMDX := Aside0.mk ((HM11.out.trans hm12).then_below hcgx)
      have HGX := Aside0.mk ((hcgx.block _ (blk_lt hg12)).trans hg12)
      have HRX := Aside0.mk ((hcgx.block _ (blk_lt hr12)).trans hr12)
      obtain ⟨A9, c9, hv9⟩ := Kd.R_slice HROWX.out
      subst hv9
      have HLC := Aside0.mk (Go.Proofs.YtlifdpfhepamfaaTl.list_calls Vgx (gr + 1) HSX.out A9 c9 hs (by omega) t _ _ HROWX.out HMX.out)
      clear hM12 hm12 hr12 hg12 hngx hbgx hcgx mgx HT HROW11 HROW9
      unfold six at HLC ⊢
      go_wp2_with fail
      refine HLC.out.mono ?_
      rintro e w13 ⟨y2, y5, rfl, hM13, hb13⟩
      obtain ⟨⟨E2, q2, a2, rfl⟩, E5, q5, a5, rfl⟩ := m_slices hM13
      have HGF := Aside0.mk ((hb13.block _ (blk_lt HGX.out)).trans HGX.out)
      have hgF' : w13.heap[gr]? = some (.cells #[.int .i64 0, .bool false, .slice none 0 0, .string ⟨#[]⟩, .int .i64 0, .slice none 0 0] 43 (0, 0)) := HGF.out
      obtain ⟨f0, f1, f2, f3, f4, f5⟩ := six_live hgF'
      obtain ⟨e0, e1, e2, e3, e4, e5⟩ := six_cells hgF'
      have hput := six_put (a' := .int .i64 (consL hs t).f0) (b' := .bool (consL hs t).f1.f0) (c' := .slice E2 q2 a2) (d' := .string (consL hs t).f2) (e' := .int .i64 (consL hs t).f3) (f' := .slice E5 q5 a5) hgF'
      have HPUT := Aside0.mk hput
      have HM13 := Aside0.mk hM13
      have HMF := Aside0.mk (HMDX.out.then_below hb13)
      have HRF := Aside0.mk ((hb13.block _ (blk_lt HRX.out)).trans HRX.out)
      clear hput hgF' hM13 hb13 HLC
      go_wp2_with fail
      refine bodyPost_ret (results_cell2 rfl _ _ gr 43 #[.int .i64 (consL hs t).f0, .bool (consL hs t).f1.f0, .slice E2 q2 a2, .string (consL hs t).f2, .int .i64 (consL hs t).f3, .slice E5 q5 a5] (0, 0) _ rfl HPUT.out Try.underlying43 rfl (by kernel_rfl)) rfl ?_
      refine ⟨_, _, rfl, ?_, mods_six HMF.out (.inr (by rw [hgr]; exact Nat.le_refl _)), ?_⟩
      · exact kT.M_lower (by rw [hgr]; exact Nat.le_succ _) (m_step HM13.out (fun kk hkk _ => six_far w13 gr kk _ _ _ _ _ _ (by omega)))
      · rw [six_far w13 gr r _ _ _ _ _ _ hne, HRF.out, HLF.out]
    · have hN := HN.out
      have hkp := hC2
      have c1 : w11.cell? ⟨r, 1, none⟩ = some (.int .i64 ((lf1 - nh : Nat) : Int)) := (blk_cell hr11 1).trans rfl
      have f1 := blk_frozen hr11 1
      obtain ⟨q1, hq1⟩ : ∃ q1, lf1 - nh = q1 := ⟨_, rfl⟩
      rw [hq1] at c1 hr11
      have hq2 : q1 ≤ 2000 := by omega
      have hq3 : 1 ≤ q1 := by omega
      obtain ⟨W12, hW12⟩ : ∃ W12, w11.setCell ⟨r, 1, none⟩ (.int .i64 ((q1 : Int) - 1)) = W12 := ⟨_, rfl⟩
      have hm12 : Mods (fun k => k = r) w W12 := by rw [← hW12]; exact hm11.setCell (p := ⟨r, 1, none⟩) (.inl rfl) _
      have hr12 : W12.heap[r]? = some (rdB h ((q1 : Int) - 1)) := by rw [← hW12]; exact blk_put hr11 1 _ rfl
      have hg12 : W12.heap[gr]? = some z6 := by rw [← hW12]; exact (blk_far hg11 (p := ⟨r, 1, none⟩) (by first | exact hne | exact Ne.symm hne) _)
      have d0 : W12.cell? ⟨r, 0, none⟩ = some (.pointer (some ⟨h, 0, none⟩)) := (blk_cell hr12 0).trans rfl
      have d1 : W12.cell? ⟨r, 1, none⟩ = some (.int .i64 ((q1 : Int) - 1)) := (blk_cell hr12 1).trans rfl
      have hh12 := HH.out.mods hm12 (fun i hi e => HRN.out (by rw [← e]; exact hi))
      have HG12 := Aside0.mk (good_calls W12 B h g gw m v l n ns tx hh12 ht0 ht2)
      rw [hgd] at HG12
      have HROW12 : Aside0 (kT.R 43 W12 (gr + 1) (fun _ => True) v9 (ds ++ [hd])) := ⟨by rw [← hW12]; exact r_step HROW11.out (fun kk hkk _ => Below.heap_setCell _ _ _ _ (by have := HRL.out; show kk ≠ r; omega))⟩
      have HMF := Aside0.mk hm12
      have HGF := Aside0.mk hg12
      have HRF := Aside0.mk hr12
      have HC3 := Aside0.mk hC2
      have HN3 : Aside0 (k2 ≤ q1 - 1 ∧ q1 - 1 ≤ 2000 ∧ q1 - 1 - k2 = lf - k) := ⟨by omega⟩
      have HDR2 : Aside0 (ds ++ [hd] ++ hs2 = hs) := ⟨by rw [← HDR.out, hrs, List.append_assoc]; rfl⟩
      have hln : rs.length = hs2.length + 1 := by rw [hrs]; rfl
      have b1 : ¬ ((q1 : Int) - 1 < 0) := by omega
      have hq4 : ((q1 - 1 : Nat) : Int) = (q1 : Int) - 1 := by omega
      clear hx11 hr11 hg11 hm11 hh11 hm12 hr12 hg12 hh12 hN hkp hC2 hrs hk1 hgd ht0 ht2 hq1 HROW11 HROW9 HQ9
      go_wp2_with fail
      refine HG12.out.mono ?_
      rintro e w13 ⟨rfl, nd13, rfl⟩
      have HQ4 := Aside0.mk hq4
      clear hq4
      go_wp2_with fail
      go_roundg hs2.length
      case measure => omega
      case rel => exact ⟨tx, ds ++ [hd], hs2, k2, q1 - 1, rfl, rfl, HDR2, HC3, ⟨Kd.R_drewN HROW12.out nd13⟩, HN3, ⟨by rw [HQ4.out]; exact ((Mods.refl (fun _ => False) W12).drewN nd13).blk HRF.out id⟩, ⟨HMF.out.trans (((Mods.refl (fun _ => False) W12).drewN nd13).mono (S' := fun k => k = r) (fun i hi => hi.elim))⟩, ⟨((Mods.refl (fun _ => False) W12).drewN nd13).blk HGF.out id⟩⟩
end Go.Proofs.YtlifdpfhepamfaaRl
namespace Go.Proofs.YtlifdpfhepamfaaRk
open Go.RowKit Go.Maps Go.Proofs.YtlifdpfhepamfaaW.PrintWords Go.Proofs.YtlifdpfhepamfaaW.PrintLast Go.Proofs.YtlifdpfhepamfaaW.PrintMore Go.Proofs.YtlifdpfhepamfaaMem Go.Proofs.YtlifdpfhepamfaaLeaf Go.Proofs.YtlifdpfhepamfaaBits Go.Proofs.Ytlifdpfhepamfaa.PHe Go.Proofs.YtlifdpfhepamfaaRow Go.Proofs.YtlifdpfhepamfaaAr Go.Proofs.YtlifdpfhepamfaaHp Go.Proofs.YtlifdpfhepamfaaHn Go.Proofs.YtlifdpfhepamfaaHo Go.Proofs.YtlifdpfhepamfaaWd Go.Proofs.YtlifdpfhepamfaaRd Go.Proofs.YtlifdpfhepamfaaRt Go.Proofs.YtlifdpfhepamfaaNof Go.Proofs.YtlifdpfhepamfaaRe Go.Proofs.YtlifdpfhepamfaaRl Go.Proofs
open Go.Proofs.YtlifdpfhepamfaaTl (kT six consT consL m_slices)
open Go.Proofs.YtlifdpfhepamfaaHt (IN LI absL)
set_option linter.unusedVariables false
set_option linter.unusedSimpArgs false
abbrev TT := Go.Proofs.YtlifdpfhepamfaaTl.TT
/-- A number as a term. -/
def NT (neg : Bool) (xs : List Int) : TT := ⟨1, ⟨neg, xs⟩, ⟨#[]⟩, 0, []⟩
theorem nt_mk {w : World} {base : Nat} {neg : Bool} {xs : List Int} {A : Option Addr} {c : Nat} (h : Kd.R (Kd.int .u32) 102 w base (fun _ => True) (.slice A xs.length c) xs) : kT.M w base (fun _ => True) (NT neg xs) (six (NT neg xs) (.slice A xs.length c) (.slice none 0 0)) :=
  k43_mkM w base _ (NT neg xs) h (Kd.R_nil _ _ _ _ _)
theorem rds_small (B h g gw m : Nat) (v : Value) (l : List Int) (n : Nat) (ns : List ByteArray) (z : Int) (hz0 : -576460752303423488 ≤ z) (hz1 : z < 576460752303423488) : Rds B h g gw m v l n ns (smallW z) (IN z) 1 := by
  obtain ⟨x0, x1, _⟩ := Go.Proofs.YtlifdpfhepamfaaRs.small_bd z hz0 hz1
  refine ⟨x0, x1, by omega, fun w r lf H hr hrn hk hf => ?_⟩
  refine (Go.Proofs.YtlifdpfhepamfaaRs.term_int w B h g gw m v l n ns r (lf : Int) z H hr hrn (by omega) (by omega) hz0 hz1).mono ?_
  rintro e w' ⟨A', c', rfl, hR, hm, hr'⟩
  exact ⟨_, _, rfl, nt_mk hR, hm, by rw [hr', show ((lf - 1 : Nat) : Int) = (lf : Int) - 1 by omega]⟩
theorem rds_num (B h g gw m : Nat) (v : Value) (l : List Int) (n : Nat) (ns : List ByteArray) (at_ : Nat) (neg : Bool) (kd : Int) (xs : List Int) (hkd : (neg = false ∧ kd = 2) ∨ (neg = true ∧ kd = 3)) (ha : at_ ≤ 32768) (hu32 : U32 xs) (hl0 : 0 < xs.length) (hl12 : xs.length ≤ 12) (hck : num_Check.f neg xs = some true) (hbx : LiesBox l at_ kd xs) :
    Rds B h g gw m v l n ns (ptrW 2 at_) (NT neg xs) 1 := by
  obtain ⟨x0, x1, _⟩ := ptr_bd 2 at_ (.inr rfl) ha
  have hkb : 1 ≤ kd ∧ kd ≤ 6 := by rcases hkd with ⟨_, rfl⟩ | ⟨_, rfl⟩ <;> omega
  refine ⟨x0, x1, by omega, fun w r lf H hr hrn hk hf => ?_⟩
  have hrl := blk_lt hr
  refine (Go.Proofs.YtlifdpfhepamfaaRx.term_box w B h g gw m v l n ns r (lf : Int) at_ kd xs hkb (fun V w' => (∃ A c, V = tv 1 neg A xs.length c ⟨#[]⟩ 0 none 0 0 ∧ Go.Proofs.YtlifdpfhepamfaaRn.RL w' (w.heap.size + 1) A c xs) ∧ w'.heap[r]? = some (rdB h ((lf : Int) - 1))) ?_ H hr hrn (by omega) (by omega) hbx ?_).mono ?_
  · rintro V w1 w2 hm ⟨⟨A, c, rfl, hR⟩, hr1⟩
    exact ⟨⟨A, c, rfl, Go.Proofs.YtlifdpfhepamfaaRg.rl_mods hR hm (fun k hk e => by omega)⟩, hm.blk hr1 (fun e => by omega)⟩
  · intro W' hH hr' hlt
    refine (Go.Proofs.YtlifdpfhepamfaaRx.box_num W' B h g gw m v l n ns r ((lf : Int) - 1) at_ neg kd xs hkd hH hr' hu32 hl0 hl12 hck hbx).mono ?_
    rintro e w' ⟨A', c', rfl, hR, hb'⟩
    exact ⟨_, _, _, _, _, _, _, _, _, _, rfl, ⟨⟨A', c', rfl, Kd.R_lower hR (by omega)⟩, (hb'.block _ (blk_lt hr')).trans hr'⟩, hb'⟩
  · rintro e w' ⟨a, b, A, n', c, s, N, A', n'', c', rfl, ⟨⟨A1, c1, e1, hR⟩, hr1⟩, hm⟩
    rw [e1]
    exact ⟨_, _, rfl, nt_mk (Kd.R_lower hR (by omega)), hm, by rw [hr1, show ((lf - 1 : Nat) : Int) = (lf : Int) - 1 by omega]⟩
set_option maxHeartbeats 8000000 in
set_option maxRecDepth 100000 in
theorem rds_cons (B h g gw m : Nat) (v : Value) (l : List Int) (n : Nat) (ns : List ByteArray) (x : Int) (hs : List TT) (t : TT) (k : Nat) (x0 : 0 ≤ x) (x1 : x < 18446744073709551616) (x2 : x % 4 = 1) (hgd : goodI l x = true) (hC : Chain l (Rds B h g gw m v l n ns) x hs t k) :
    Rds B h g gw m v l n ns x (consL hs t) (1 + k) := by
  refine ⟨x0, x1, by omega, fun w r lf H hr hrn hk hf => ?_⟩
  have htg := tag_eq x
  have hcc := isCatch_eq _ x0 x1
  rw [x2] at htg
  rw [show isCatchI x = (0, false) by unfold isCatchI; rw [if_neg (by omega)]] at hcc
  obtain ⟨W0, hW0⟩ : ∃ W0, w.alloc (.cells #[.int .i64 0, .bool false, .slice none 0 0, .string ⟨#[]⟩, .int .i64 0, .slice none 0 0] 43) = W0 := ⟨_, rfl⟩
  obtain ⟨gr, hgr⟩ : ∃ gr, w.heap.size = gr := ⟨_, rfl⟩
  have hr0 : W0.heap[gr]? = some z6 := by rw [← hW0, ← hgr]; exact heap_alloc_new _ _
  have hb0 : Below w.heap.size w W0 := by rw [← hW0]; exact below_alloc (Below.refl _ _) _
  have hrr : W0.heap[r]? = some (rdB h (lf : Int)) := (hb0.block _ (blk_lt hr)).trans hr
  have c1 : W0.cell? ⟨r, 1, none⟩ = some (.int .i64 (lf : Int)) := (blk_cell hrr 1).trans rfl
  have f1 := blk_frozen hrr 1
  obtain ⟨W1, hW1⟩ : ∃ W1, W0.setCell ⟨r, 1, none⟩ (.int .i64 ((lf : Int) - 1)) = W1 := ⟨_, rfl⟩
  have hm1 : Mods (fun k => k = r) w W1 := by rw [← hW1]; exact (Mods.of_below _ hb0).trans ((Mods.refl (fun k => k = r) W0).setCell (p := ⟨r, 1, none⟩) (.inl rfl) _)
  have hr1 : W1.heap[r]? = some (rdB h ((lf : Int) - 1)) := by rw [← hW1]; exact blk_put hrr 1 _ rfl
  have hne : r ≠ gr := fun e => by have := blk_lt hr; omega
  have hg1 : W1.heap[gr]? = some z6 := by rw [← hW1]; exact (blk_far hr0 (p := ⟨r, 1, none⟩) (by first | exact hne | exact Ne.symm hne) _)
  have hh1 : Hp B W1 h g gw m v l n ns := H.mods hm1 (fun i hi e => hrn (by rw [← e]; exact hi))
  have d1 : W1.cell? ⟨r, 1, none⟩ = some (.int .i64 ((lf : Int) - 1)) := (blk_cell hr1 1).trans rfl
  have d0 : W1.cell? ⟨r, 0, none⟩ = some (.pointer (some ⟨h, 0, none⟩)) := (blk_cell hr1 0).trans rfl
  have HM1 := Aside0.mk hm1
  have HR1 := Aside0.mk hr1
  have HG1 := Aside0.mk hg1
  have HTG := Aside0.mk (fun W => word_Tag.calls x _ W htg)
  have HCC := Aside0.mk (fun W => word_IsCatch.calls x 0 false W hcc)
  have HGD := Aside0.mk (fun W (hH : Hp B W h g gw m v l n ns) => good_calls W B h g gw m v l n ns x hH x0 x1)
  rw [hgd] at HGD
  have HH1 := Aside0.mk hh1
  have hlt : ¬ ((lf : Int) - 1 < 0) := by omega
  have HLS := Aside0.mk (fun W (hH : Hp B W h g gw m v l n ns) (hW : W.heap[r]? = some (rdB h ((lf - 1 : Nat) : Int))) => list_ok W B h g gw m v l n ns r (lf - 1) x hs t k hH hW hrn (by omega) (by omega) hC)
  obtain ⟨u, hu⟩ : ∃ u, consL hs t = u := ⟨_, rfl⟩
  rw [hu] at HLS ⊢
  have HK := Aside0.mk hk
  clear H hr hrn hC hgd htg hcc hr0 hb0 hrr hm1 hr1 hg1 hh1 x2 hu hk
  go_enter Try.func94, Try.ntmps94
  go_wp2_with fail
  refine (HCC.out _).mono ?_
  rintro e w2 ⟨rfl, nd2, rfl⟩
  clear c1 f1
  go_wp2_with fail
  refine (HGD.out _ (HH1.out.mods ((Mods.refl (fun _ => False) W1).drewN nd2) (fun _ _ => id))).mono ?_
  rintro e w3 ⟨rfl, nd3, rfl⟩
  go_wp2_with fail
  refine (HTG.out _).mono ?_
  rintro e w4 ⟨rfl, nd4, rfl⟩
  obtain ⟨W5, hW5⟩ : ∃ W5, W1.drewN (nd2 + nd3 + nd4) = W5 := ⟨_, rfl⟩
  have hm5 : Mods (fun _ => False) W1 W5 := by rw [← hW5]; exact (Mods.refl (fun _ => False) W1).drewN _
  have h5 := HH1.out.mods hm5 (fun _ _ => id)
  have hr5 : W5.heap[r]? = some (rdB h ((lf - 1 : Nat) : Int)) := by rw [show ((lf - 1 : Nat) : Int) = (lf : Int) - 1 by omega]; exact hm5.blk HR1.out id
  have hg5 : W5.heap[gr]? = some z6 := hm5.blk HG1.out id
  have HG5 := Aside0.mk hg5
  have HC5 := Aside0.mk (HLS.out W5 h5 hr5)
  have HM5 := Aside0.mk (HM1.out.trans (hm5.mono (S' := fun k => k = r) (fun i hi => hi.elim)))
  have HSZ : Aside0 (gr + 1 ≤ W5.heap.size) := ⟨by have := blk_lt hg5; omega⟩
  clear h5 hr5 hg5 hm5 HLS d0 d1
  go_wp2_with fail
  refine HC5.out.mono ?_
  rintro e w6 ⟨v2, v5, rfl, hM6, hm6, hr6⟩
  obtain ⟨⟨E2, q2, a2, rfl⟩, E5, q5, a5, rfl⟩ := m_slices hM6
  have hg6 := hm6.blk HG5.out (fun e => hne e.symm)
  have hg6' : w6.heap[gr]? = some (.cells #[.int .i64 0, .bool false, .slice none 0 0, .string ⟨#[]⟩, .int .i64 0, .slice none 0 0] 43 (0, 0)) := hg6
  obtain ⟨z0, z1, z2, z3, z4, z5⟩ := six_live hg6'
  obtain ⟨s0, s1, s2, s3, s4, s5⟩ := six_cells hg6'
  have HPUT := Aside0.mk (six_put (a' := .int .i64 u.f0) (b' := .bool u.f1.f0) (c' := .slice E2 q2 a2) (d' := .string u.f2) (e' := .int .i64 u.f3) (f' := .slice E5 q5 a5) hg6')
  have HMM := Aside0.mk (kT.M_lower HSZ.out hM6)
  have HRF := Aside0.mk hr6
  have HMF := Aside0.mk (HM5.out.trans hm6)
  clear hm6 hg6 hg6' HC5 hM6 hr6
  unfold six
  go_wp2_with fail
  refine bodyPost_ret (results_cell2 rfl _ _ gr 43 #[.int .i64 u.f0, .bool u.f1.f0, .slice E2 q2 a2, .string u.f2, .int .i64 u.f3, .slice E5 q5 a5] (0, 0) _ rfl HPUT.out Try.underlying43 rfl (by kernel_rfl)) rfl ?_
  refine ⟨_, _, rfl, ?_, mods_six HMF.out (.inr (by rw [hgr]; exact Nat.le_refl _)), ?_⟩
  · exact kT.M_lower (by rw [hgr]; exact Nat.le_succ _) (m_step HMM.out (fun kk hkk _ => six_far w6 gr kk _ _ _ _ _ _ (by omega)))
  · rw [six_far w6 gr r _ _ _ _ _ _ hne, HRF.out, Nat.sub_add_eq]
set_option maxHeartbeats 8000000 in
set_option maxRecDepth 100000 in
theorem rds_nil (B h g gw m : Nat) (v : Value) (l : List Int) (n : Nat) (ns : List ByteArray) : Rds B h g gw m v l n ns 11 (LI []) 1 := by
  refine ⟨by omega, by omega, by omega, fun w r lf H hr hrn hk hf => ?_⟩
  obtain ⟨x, hx⟩ : ∃ x : Int, 11 = x := ⟨_, rfl⟩
  have x0 : 0 ≤ x := by omega
  have x1 : x < 18446744073709551616 := by omega
  have hgd : goodI l x = true := by subst hx; unfold goodI; rw [if_pos (by decide)]; rfl
  have htg := tag_eq x
  have hcc := isCatch_eq _ x0 x1
  have hio := intOf_eq x
  have hia := isAtom_eq x x0 x1
  rw [show x % 4 = 3 by omega] at htg
  rw [show isCatchI x = (0, false) by unfold isCatchI; rw [if_neg (by omega)]] at hcc
  rw [show intOfI x = (0, false) by unfold intOfI; rw [if_neg (by omega)]] at hio
  rw [show isAtomI x = (0, false) by unfold isAtomI; rw [if_neg (by omega)]] at hia
  obtain ⟨W0, hW0⟩ : ∃ W0, w.alloc (.cells #[.int .i64 0, .bool false, .slice none 0 0, .string ⟨#[]⟩, .int .i64 0, .slice none 0 0] 43) = W0 := ⟨_, rfl⟩
  obtain ⟨gr, hgr⟩ : ∃ gr, w.heap.size = gr := ⟨_, rfl⟩
  have hr0 : W0.heap[gr]? = some z6 := by rw [← hW0, ← hgr]; exact heap_alloc_new _ _
  have hb0 : Below w.heap.size w W0 := by rw [← hW0]; exact below_alloc (Below.refl _ _) _
  have hrr : W0.heap[r]? = some (rdB h (lf : Int)) := (hb0.block _ (blk_lt hr)).trans hr
  have c1 : W0.cell? ⟨r, 1, none⟩ = some (.int .i64 (lf : Int)) := (blk_cell hrr 1).trans rfl
  have f1 := blk_frozen hrr 1
  obtain ⟨W1, hW1⟩ : ∃ W1, W0.setCell ⟨r, 1, none⟩ (.int .i64 ((lf : Int) - 1)) = W1 := ⟨_, rfl⟩
  have hm1 : Mods (fun k => k = r) w W1 := by rw [← hW1]; exact (Mods.of_below _ hb0).trans ((Mods.refl (fun k => k = r) W0).setCell (p := ⟨r, 1, none⟩) (.inl rfl) _)
  have hr1 : W1.heap[r]? = some (rdB h ((lf : Int) - 1)) := by rw [← hW1]; exact blk_put hrr 1 _ rfl
  have hne : r ≠ gr := fun e => by have := blk_lt hr; omega
  have hg1 : W1.heap[gr]? = some z6 := by rw [← hW1]; exact (blk_far hr0 (p := ⟨r, 1, none⟩) (by first | exact hne | exact Ne.symm hne) _)
  have hh1 : Hp B W1 h g gw m v l n ns := H.mods hm1 (fun i hi e => hrn (by rw [← e]; exact hi))
  have d1 : W1.cell? ⟨r, 1, none⟩ = some (.int .i64 ((lf : Int) - 1)) := (blk_cell hr1 1).trans rfl
  have d0 : W1.cell? ⟨r, 0, none⟩ = some (.pointer (some ⟨h, 0, none⟩)) := (blk_cell hr1 0).trans rfl
  have HM1 := Aside0.mk hm1
  have HR1 := Aside0.mk hr1
  have HG1 := Aside0.mk hg1
  have HTG := Aside0.mk (fun W => word_Tag.calls x _ W htg)
  have HCC := Aside0.mk (fun W => word_IsCatch.calls x 0 false W hcc)
  have HGD := Aside0.mk (fun W (hH : Hp B W h g gw m v l n ns) => good_calls W B h g gw m v l n ns x hH x0 x1)
  rw [hgd] at HGD
  have HH1 := Aside0.mk hh1
  have hlt : ¬ ((lf : Int) - 1 < 0) := by omega
  have HIO := Aside0.mk (fun W => word_IntOf.calls x 0 false W hio)
  have HIA := Aside0.mk (fun W => word_IsAtom.calls x 0 false W hia)
  have HK := Aside0.mk hk
  rw [hx]
  clear H hr hrn hgd htg hcc hr0 hb0 hrr hm1 hr1 hg1 hh1 hio hia hk
  go_enter Try.func94, Try.ntmps94
  go_wp2_with fail
  refine (HCC.out _).mono ?_
  rintro e w2 ⟨rfl, nd2, rfl⟩
  clear c1 f1
  go_wp2_with fail
  refine (HGD.out _ (HH1.out.mods ((Mods.refl (fun _ => False) W1).drewN nd2) (fun _ _ => id))).mono ?_
  rintro e w3 ⟨rfl, nd3, rfl⟩
  go_wp2_with fail
  refine (HTG.out _).mono ?_
  rintro e w4 ⟨rfl, nd4, rfl⟩
  go_wp2_with fail
  refine (HIO.out _).mono ?_
  rintro e w5 ⟨rfl, nd5, rfl⟩
  go_wp2_with fail
  refine (HIA.out _).mono ?_
  rintro e w6 ⟨rfl, nd6, rfl⟩
  obtain ⟨W5, hW5⟩ : ∃ W5, W1.drewN (nd2 + nd3 + nd4 + nd5 + nd6) = W5 := ⟨_, rfl⟩
  have hm5 : Mods (fun _ => False) W1 W5 := by rw [← hW5]; exact (Mods.refl (fun _ => False) W1).drewN _
  have hr5 : W5.heap[r]? = some (rdB h ((lf : Int) - 1)) := hm5.blk HR1.out id
  have hg5 : W5.heap[gr]? = some (.cells #[.int .i64 0, .bool false, .slice none 0 0, .string ⟨#[]⟩, .int .i64 0, .slice none 0 0] 43 (0, 0)) := hm5.blk HG1.out id
  have HM5 := Aside0.mk (HM1.out.trans (hm5.mono (S' := fun k => k = r) (fun i hi => hi.elim)))
  have HPUT := Aside0.mk (six_put (a' := .int .i64 3) (b' := .bool false) (c' := .slice none 0 0) (d' := .string ⟨#[]⟩) (e' := .int .i64 0) (f' := .slice none 0 0) hg5)
  have HR5 := Aside0.mk hr5
  obtain ⟨z0, z1, z2, z3, z4, z5⟩ := six_live hg5
  obtain ⟨s0, s1, s2, s3, s4, s5⟩ := six_cells hg5
  subst hx
  clear hr5 hg5 hm5 d0 d1
  go_wp2_with fail
  refine bodyPost_ret (results_cell2 rfl _ _ gr 43 #[.int .i64 3, .bool false, .slice none 0 0, .string ⟨#[]⟩, .int .i64 0, .slice none 0 0] (0, 0) _ rfl HPUT.out Try.underlying43 rfl (by kernel_rfl)) rfl ?_
  refine ⟨_, _, rfl, ?_, mods_six HM5.out (.inr (by rw [hgr]; exact Nat.le_refl _)), ?_⟩
  · exact k43_mkM _ _ _ (LI []) (Kd.R_nil _ _ _ _ _) (Kd.R_nil _ _ _ _ _)
  · rw [six_far W5 gr r _ _ _ _ _ _ hne, HR5.out, show ((lf - 1 : Nat) : Int) = (lf : Int) - 1 by have := HK.out; omega]
/-- Get of a word that is read. -/
theorem get_rds (w : World) (B h g gw m : Nat) (v : Value) (l : List Int) (n : Nat) (ns : List ByteArray) (x : Int) (t : TT) (k : Nat) (H : Hp B w h g gw m v l n ns) (hR : Rds B h g gw m v l n ns x t k) (hk : k ≤ 2000) :
    Calls Try.prog 42 #[.pointer (some ⟨h, 0, none⟩), .int .u64 x] w fun e w' => ∃ v2 v5, e = .returned (.tuple #[.agg (six t v2 v5).toArray, .bool true]) ∧ kT.M w' (w.heap.size + 1) (fun _ => True) t (six t v2 v5) ∧ Below w.heap.size w w' := by
  refine (get_ok w h x (fun V w' => ∃ v2 v5, V = .agg (six t v2 v5).toArray ∧ kT.M w' (w.heap.size + 1) (fun _ => True) t (six t v2 v5)) ?_ ?_).mono ?_
  · rintro V w1 w2 hm ⟨v2, v5, rfl, hM⟩
    exact ⟨v2, v5, rfl, m_step hM (fun kk hkk hlt => hm.block kk hlt (by omega))⟩
  · intro W r hb hr hW
    have hrW := blk_lt hW
    refine (hR.2.2.2 W r 2000 (H.below hb) hW (fun hs => by have := (H.foot r hs).2; omega) hk (by omega)).mono ?_
    rintro e w' ⟨v2, v5, rfl, hM, hm, -⟩
    have hM' := kT.M_lower (show w.heap.size + 1 ≤ W.heap.size by omega) hM
    obtain ⟨⟨E2, q2, a2, rfl⟩, E5, q5, a5, rfl⟩ := m_slices hM
    exact ⟨_, _, _, _, _, _, _, _, _, _, rfl, hm, _, _, rfl, hM'⟩
  · rintro e w' ⟨V, rfl, hb, v2, v5, rfl, hM⟩
    exact ⟨v2, v5, rfl, hM, hb⟩
end Go.Proofs.YtlifdpfhepamfaaRk
namespace Go.Proofs.YtlifdpfhepamfaaHs
open Go.RowKit Go.Maps Go.Proofs.YtlifdpfhepamfaaW.PrintWords Go.Proofs.YtlifdpfhepamfaaW.PrintLast Go.Proofs.YtlifdpfhepamfaaW.PrintMore Go.Proofs.YtlifdpfhepamfaaMem Go.Proofs.YtlifdpfhepamfaaLeaf Go.Proofs.YtlifdpfhepamfaaBits Go.Proofs.Ytlifdpfhepamfaa.PHe Go.Proofs.YtlifdpfhepamfaaRow Go.Proofs.YtlifdpfhepamfaaAr Go.Proofs.YtlifdpfhepamfaaHp Go.Proofs.YtlifdpfhepamfaaHn Go.Proofs.YtlifdpfhepamfaaHo Go.Proofs.YtlifdpfhepamfaaHt Go.Proofs.YtlifdpfhepamfaaHw Go.Proofs.YtlifdpfhepamfaaHu Go.Proofs.YtlifdpfhepamfaaWd Go.Proofs.YtlifdpfhepamfaaRd Go.Proofs.YtlifdpfhepamfaaRt Go.Proofs.YtlifdpfhepamfaaNof Go.Proofs.YtlifdpfhepamfaaRe Go.Proofs.YtlifdpfhepamfaaRl Go.Proofs.YtlifdpfhepamfaaRk Go.Proofs
open Go.Proofs.YtlifdpfhepamfaaTl (kT six consT consL)
set_option linter.unusedVariables false
set_option linter.unusedSimpArgs false
abbrev TT := Go.Proofs.YtlifdpfhepamfaaTl.TT
theorem intN_eq (v : Int) (h0 : -9223372036854775808 ≤ v) (h1 : v < 9223372036854775808) : intN true (decide (v < 0)) (absL v) = (v, true) := by
  have hv : ∀ a : Int, 0 ≤ a → a < 18446744073709551616 → (limbs a).length ≤ 2 ∧ valU (limbs a) (limbs a).length = a := by
    intro a ha hb
    unfold limbs
    by_cases h : a = 0
    · rw [if_pos h]; subst h; exact ⟨by decide, rfl⟩
    · rw [if_neg h]
      by_cases h2 : a < 4294967296
      · rw [if_pos h2]; exact ⟨by simp, rfl⟩
      · rw [if_neg h2]; refine ⟨by simp, ?_⟩
        show a % 4294967296 + 4294967296 * (a / 4294967296) = a
        omega
  show intO (decide (v < 0)) (absL v) = _
  unfold intO absL
  by_cases hn : v < 0
  · obtain ⟨a1, a2⟩ := hv (-v) (by omega) (by omega)
    rw [if_pos hn, if_neg (by omega), if_pos (by simp [hn]), a2, if_pos (by omega)]
    simp
  · obtain ⟨a1, a2⟩ := hv v (by omega) (by omega)
    rw [if_neg hn, if_neg (by omega), if_neg (by simp [hn]), a2, if_pos (by omega)]
/-- A cell's words. -/
theorem word_at {l : List Int} {t : Nat} (h : t < l.length) : wordA l (t : Int) = l.getD t 0 := by
  unfold wordA
  rw [if_pos (by omega), Int.toNat_natCast]
theorem getD_pre {l L : List Int} (h : l <+: L) {i : Nat} (hi : i < l.length) : L.getD i 0 = l.getD i 0 := by
  obtain ⟨r, rfl⟩ := h
  simp [List.getD_eq_getElem?_getD, List.getElem?_append_left hi]
theorem cell_mk {L : List Int} {a : Nat} {hx tx : Int} (ha : a + 1 < L.length) (hL : L.length ≤ 32768) (h0 : L.getD a 0 = hx) (h1 : L.getD (a + 1) 0 = tx) : Cell L (ptrW 1 a) (a : Int) hx tx := by
  obtain ⟨b0, b1, b2, b3, b4⟩ := ptr_bd 1 a (.inl rfl) (by omega)
  refine ⟨b0, b1, b3, by omega, by omega, by rw [word_at (by omega), h0], ?_⟩
  rw [show (a : Int) + 1 = ((a + 1 : Nat) : Int) by omega, word_at (by omega), h1]
theorem good_mk {L : List Int} {a : Nat} (ha : a + 1 < L.length) (hL : L.length ≤ 32768) (h0 : L.getD a 0 % 4 ≠ 0) : goodI L (ptrW 1 a) = true := by
  obtain ⟨b0, b1, b2, b3, b4⟩ := ptr_bd 1 a (.inl rfl) (by omega)
  have hw := word_at (l := L) (t := a) (by omega)
  have hext : extA L (a : Int) = 2 := by
    have hw2 : extW L (a : Int) = 2 := by unfold extW; rw [Int.toNat_natCast, if_neg h0]
    unfold extA
    rw [if_pos (by omega), hw2, if_pos (by omega)]
  unfold goodI
  rw [if_neg (by omega), if_pos b2, b3, hw, hext]
  unfold headOfI
  rw [if_neg h0]
  rfl
theorem putLw_pre : ∀ (vs l : List Int), l <+: putLw vs l
  | [], l => List.prefix_rfl
  | v :: vs, l => by
    rw [putLw_cons]
    have h1 : l <+: numLw v l := by unfold numLw; split; exact List.prefix_rfl; exact List.prefix_append _ _
    exact (h1.trans (putLw_pre vs _)).trans (List.prefix_append _ _)
section
variable (B h g gw m : Nat) (u : Value) (L : List Int) (n : Nat) (ns : List ByteArray)
/-- What is read as a list of numbers, from a word on that is a list's tail. -/
def TlR (tw : Int) (vs : List Int) : Prop :=
  (vs = [] ∧ tw = 11) ∨ (vs ≠ [] ∧ tw % 4 = 1 ∧ 0 ≤ tw ∧ tw < 18446744073709551616 ∧ goodI L tw = true ∧ Chain L (Rds B h g gw m u L n ns) tw (vs.map IN) (LI []) (2 * vs.length))
variable {B h g gw m u L n ns}
theorem tl_cons {x p hx tw : Int} {z : Int} {vs : List Int} (hc : Cell L x p hx tw) (hr : Rds B h g gw m u L n ns hx (IN z) 1) (ht : TlR B h g gw m u L n ns tw vs) (hx4 : x % 4 = 1) (hg : goodI L x = true) : TlR B h g gw m u L n ns x (z :: vs) := by
  refine .inr ⟨by simp, hx4, hc.1, hc.2.1, hg, ?_⟩
  rcases ht with ⟨rfl, rfl⟩ | ⟨hne, h4, h0, h1, hg2, hch⟩
  · exact (Chain.last hc hr (by omega) (rds_nil B h g gw m u L n ns) : Chain L _ x [IN z] (LI []) (1 + 1))
  · have := Chain.more hc hr h4 h0 h1 hg2 hch
    rw [show 2 * (z :: vs).length = 1 + 1 + 2 * vs.length by simp only [List.length_cons]; omega]
    exact this
theorem consL_LI : ∀ vs : List Int, consL (vs.map IN) (LI []) = LI vs
  | [] => rfl
  | v :: vs => by
    show consT (IN v) (consL (vs.map IN) (LI [])) = _
    rw [consL_LI vs]
    rfl
theorem rds_tl {x : Int} {vs : List Int} (h1 : TlR B h g gw m u L n ns x vs) : Rds B h g gw m u L n ns x (LI vs) (1 + 2 * vs.length) := by
  rcases h1 with ⟨rfl, rfl⟩ | ⟨hne, h4, h0, h1, hg2, hch⟩
  · exact rds_nil B h g gw m u L n ns
  · have := rds_cons B h g gw m u L n ns x _ _ _ h0 h1 h4 hg2 hch
    rw [consL_LI] at this
    exact this
theorem rds_numW {v : Int} (h0 : -9223372036854775808 ≤ v) (h1 : v < 9223372036854775808) {l : List Int} (hp : numLw v l <+: L) (hL : L.length ≤ 32768) : Rds B h g gw m u L n ns (numWw v l) (IN v) 1 ∧ numWw v l % 4 ≠ 0 := by
  have hi := intN_eq v h0 h1
  by_cases hs : smallN true (decide (v < 0)) (absL v) = true
  · have hb : -576460752303423488 ≤ v ∧ v < 576460752303423488 := by
      unfold smallN at hs
      rw [hi] at hs
      simpa using hs
    unfold numWw
    rw [if_pos hs, hi]
    exact ⟨rds_small B h g gw m u L n ns v hb.1 hb.2, by unfold smallW; omega⟩
  · have hl := numLw_len v l
    unfold numLw at hp hl
    rw [if_neg hs] at hp hl
    unfold numWw
    rw [if_neg hs]
    have hlen := hp.length_le
    simp only [List.length_append] at hlen
    have hnw : (numWs (decide (v < 0)) (absL v)).length = 1 + (absL v).length := by simp [numWs, boxWs]; omega
    have hpos : 0 < (absL v).length := by
      rcases Nat.eq_zero_or_pos (absL v).length with h | h
      · exfalso
        have hv : v = 0 := by
          have hi1 := congrArg Prod.fst hi
          have he : absL v = [] := List.eq_nil_of_length_eq_zero h
          unfold absL limbs at he
          split at he <;> split at he <;> first | omega | (split at he <;> cases he)
        subst hv
        exact hs (by kernel_rfl)
      · exact h
    have h12 : (absL v).length ≤ 12 := by
      unfold absL limbs
      split <;> split <;> first | simp | (split <;> simp)
    refine ⟨rds_num B h g gw m u L n ns l.length (decide (v < 0)) (if decide (v < 0) = true then 3 else 2) (absL v) ?_ (by omega) (u32_IN v h0 h1) hpos h12 (check_IN v h0 h1) ?_, by unfold ptrW; omega⟩
    · by_cases hn : v < 0
      · right; simp [hn]
      · left; simp [hn]
    · obtain ⟨r, rfl⟩ := hp
      exact ⟨r, by rw [List.append_assoc, List.drop_left]; rfl⟩
theorem tl_put : ∀ (vs l : List Int), I64 vs → putLw vs l <+: L → L.length ≤ 32768 → TlR B h g gw m u L n ns (putWw vs l) vs
  | [], l, _, _, _ => .inl ⟨rfl, rfl⟩
  | v :: vs, l, hI, hp, hL => by
    have hv := hI v (by simp)
    have hlen := hp.length_le
    rw [putLw_cons] at hp hlen
    have hp1 := (List.prefix_append (putLw vs (numLw v l)) [numWw v l, putWw vs (numLw v l)]).trans hp
    have hp0 := (putLw_pre vs (numLw v l)).trans hp1
    obtain ⟨hr, h4⟩ := rds_numW (B := B) (h := h) (g := g) (gw := gw) (m := m) (u := u) (n := n) (ns := ns) hv.1 hv.2 hp0 hL
    obtain ⟨a, ha⟩ : ∃ a, (putLw vs (numLw v l)).length = a := ⟨_, rfl⟩
    simp only [List.length_append, List.length_cons, List.length_nil, ha] at hlen
    have g0 : L.getD a 0 = numWw v l := by
      rw [getD_pre hp (by simp [ha])]
      simp [List.getD_eq_getElem?_getD, ← ha]
    have g1 : L.getD (a + 1) 0 = putWw vs (numLw v l) := by
      rw [getD_pre hp (by simp [ha])]
      simp [List.getD_eq_getElem?_getD, ← ha]
    rw [putWw_cons, ha]
    exact tl_cons (cell_mk (by omega) hL g0 g1) hr (tl_put vs _ (fun x hx => hI x (by simp [hx])) hp1 hL) (by unfold ptrW; omega) (good_mk (by omega) hL (by rw [g0]; exact h4))
end
end Go.Proofs.YtlifdpfhepamfaaHs
