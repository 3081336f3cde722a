/- Copying: tell, points, move, the copier, Collect, look, Reach. -/
import Derived.Test.YtlifdpfhepamfaaMem
import Derived.Conc.LoneCalls
import Derived.Conc.LoneSelect
import Derived.KernelRfl
import Derived.Laws.Rows
import Derived.Test.YtlifdpfhepamfaaWd
import Derived.Test.YtlifdpfhepamfaaHo
import Derived.Deep.RegionHeld3
import Derived.Conc.SmallLaws
import Derived.Test.YtlifdpfhepamfaaRowK
import Derived.ArgAppend
namespace Go.Proofs.YtlifdpfhepamfaaTell
open Go.Conc Go.RowKit Go.Proofs.YtlifdpfhepamfaaMem Go.Proofs
set_option linter.unusedVariables false
set_option linter.unusedSimpArgs false
/-- A channel of one place. -/
def Ch (w : World) (ch : Nat) : Prop := ∃ buf s, w.heap[ch]? = some (.chan 1 buf false s 0 false) ∧ buf.size ≤ 1
theorem mods_chan (w : World) (c : Nat) (cap : Nat) (buf : Array Value) (cl : Bool) (s r : Nat) (tm : Bool) : Mods (fun k => k = c) w (w.setChan c cap buf cl s r tm) := by
  refine ⟨rfl, rfl, rfl, by rw [size_setChan]; exact Nat.le_refl _, fun k hk hn => ?_⟩
  simp only [World.setChan]
  first | rw [Array.getElem?_setIfInBounds_ne (fun e => hn e.symm)] | simp [Array.getElem?_setIfInBounds, show ¬ c = k from fun e => hn e.symm]
set_option maxHeartbeats 4000000 in
set_option maxRecDepth 100000 in
theorem tell_calls (w : World) (gc ch : Nat) (h to_ m : Value) (at_ : Int) (hc : w.heap[gc]? = some (.cells #[h, to_, m, .chan (some ch)] 115 (0, 0))) (hh : Ch w ch) :
    Calls Try.prog 127 #[.pointer (some ⟨gc, 0, none⟩), .int .i64 at_] w fun e w' => e = .returned (.tuple #[]) ∧ Ch w' ch ∧ Mods (fun k => k = ch) w w' := by
  obtain ⟨buf, s, hb, hs⟩ := hh
  have c3 : w.cell? ⟨gc, 3, none⟩ = some (.chan (some ch)) := by simp [World.cell?, hc]
  refine calls_of_loneTo fun cs => ?_
  have e : Frame.enter Try.prog 127 #[.pointer (some ⟨gc, 0, none⟩), .int .i64 at_] .normal = (base 127).at ⟨#[.pointer (some ⟨gc, 0, none⟩), .int .i64 at_, undef, undef, undef, undef, undef, undef, undef, undef, undef, undef], []⟩ [.code (Try.f127.body.getD .skip)] := by
    simp [Frame.enter, Frame.at, Try.func127, base, Try.f127]
  rw [e]
  refine LoneTo.goes (n := 13) ?_
  simp only [Try.f127, Option.getD_some]
  s_c stepG_seq
  s_c stepG_seq
  s_reg
  s_op
  s_op
  s_op
  s_op
  s_c stepG_region_end
  s_reg
  s_op
  s_c stepG_region_end
  s_c stepG_seq
  s_reg
  s_stop
  by_cases hr : buf.size < 1
  · refine LoneTo.step (step_lone_select_send_room (c := ch) (v := .int .i64 at_) (z' := .int .i64 0) (cap := 1) (buf := buf) (s := s) (r := 0) (tm := false) (stepG_comm (cases := #[scase ch (.int .i64 at_) (.int .i64 0)]) (blocking := false) (shape := .select) (w' := w) rfl rfl (by decide) (by simp [go_sem, execOp, scase, Act.eval])) hb hr) ?_
    rw [Frame.finish_at]
    walk_nrm
    refine LoneTo.goes (n := 8) ?_
    s_op
    s_op
    s_c stepG_region_end
    s_c stepG_block
    s_cond true
    s_c stepG_skip
    s_c stepG_inBlock
    s_c stepG_end
    s_stop
    refine LoneTo.done ⟨.returned (.tuple #[]), _, rfl, ⟨rfl, ?_, ?_⟩, rfl, rfl, rfl, rfl, _, Try.func127, by simp [results, Try.f127, Frame.at]⟩
    · exact ⟨buf.push (.int .i64 at_), s + 1, heap_setChan w ch 1 _ false (s + 1) 0 false (Array.getElem?_eq_some_iff.1 hb).1, by rw [Array.size_push]; omega⟩
    · exact mods_chan _ _ _ _ _ _ _ _
  · refine LoneTo.step (step_lone_select_send_full (c := ch) (v := .int .i64 at_) (z' := .int .i64 0) (cap := 1) (buf := buf) (s := s) (r := 0) (tm := false) (stepG_comm (cases := #[scase ch (.int .i64 at_) (.int .i64 0)]) (blocking := false) (shape := .select) (w' := w) rfl rfl (by decide) (by simp [go_sem, execOp, scase, Act.eval])) hb (Nat.not_lt.1 hr)) ?_
    rw [Frame.finish_at]
    walk_nrm
    refine LoneTo.goes (n := 8) ?_
    s_op
    s_op
    s_c stepG_region_end
    s_c stepG_block
    s_cond false
    s_c stepG_skip
    s_c stepG_inBlock
    s_c stepG_end
    s_stop
    refine LoneTo.done ⟨.returned (.tuple #[]), _, rfl, ⟨rfl, ⟨buf, s, hb, hs⟩, Mods.refl _ _⟩, rfl, rfl, rfl, rfl, _, Try.func127, by simp [results, Try.f127, Frame.at]⟩
end Go.Proofs.YtlifdpfhepamfaaTell
namespace Go.Proofs.YtlifdpfhepamfaaCp
open Go.RowKit Go.Maps Go.Proofs.YtlifdpfhepamfaaW.PrintWords Go.Proofs.YtlifdpfhepamfaaW.PrintLast Go.Proofs.YtlifdpfhepamfaaW.PrintMore Go.Proofs.YtlifdpfhepamfaaMem Go.Proofs.YtlifdpfhepamfaaLeaf Go.Proofs.YtlifdpfhepamfaaBits Go.Proofs.Ytlifdpfhepamfaa.PHe Go.Proofs.YtlifdpfhepamfaaRow Go.Proofs.YtlifdpfhepamfaaAr Go.Proofs.YtlifdpfhepamfaaHp Go.Proofs.YtlifdpfhepamfaaHo Go.Proofs.YtlifdpfhepamfaaWd Go.Proofs
set_option linter.unusedVariables false
set_option linter.unusedSimpArgs false
def pointsI (x : Int) : Bool := decide (x % 4 = 1) || decide (x % 4 = 2)
set_option maxHeartbeats 4000000 in
set_option maxRecDepth 100000 in
theorem points_calls (x : Int) (w : World) : Calls Try.prog 82 #[.int .u64 x] w fun e w' => e = .returned (.bool (pointsI x)) ∧ ∃ nd, w' = w.drewN nd := by
  have HTG := Aside0.mk (fun W => word_Tag.calls x _ W (tag_eq x))
  unfold pointsI
  generalize x % 4 = t at HTG ⊢
  by_cases h1 : t = 1
  · subst h1
    go_enter Try.func82, Try.ntmps82
    go_wp2_with fail
    refine (HTG.out _).mono ?_
    rintro e w1 ⟨rfl, nd, rfl⟩
    go_wp2_with fail
    go_ret
    exact ⟨rfl, nd, rfl⟩
  · have b1 : (t == 1) = false := beq_eq_false_iff_ne.mpr h1
    have b2 : decide (t = 1) = false := decide_eq_false h1
    go_enter Try.func82, Try.ntmps82
    go_wp2_with fail
    refine (HTG.out _).mono ?_
    rintro e w1 ⟨rfl, nd, rfl⟩
    go_wp2_with fail
    refine (HTG.out _).mono ?_
    rintro e w2 ⟨rfl, nd2, rfl⟩
    go_wp2_with fail
    go_ret
    refine ⟨?_, _, rfl⟩
    by_cases h2 : t = 2
    · subst h2; rfl
    · rw [decide_eq_false h2, b2]
      simp [h2]
/-- From which of an object's words on, and how many, lead on. -/
def innerI (l : List Int) (at_ : Int) : Int × Int :=
  if (headOfI (wordA l at_)).2.2 = true then
    (if (headOfI (wordA l at_)).1 = 1 then (1, (headOfI (wordA l at_)).2.1) else if (headOfI (wordA l at_)).1 = 5 then (1, if 1 < (headOfI (wordA l at_)).2.1 then 1 else (headOfI (wordA l at_)).2.1) else if (headOfI (wordA l at_)).1 = 6 then (2, wrap64 ((headOfI (wordA l at_)).2.1 - 1)) else (1, 0))
  else (0, 2)
set_option maxHeartbeats 4000000 in
set_option maxRecDepth 100000 in
theorem inner_calls (w : World) (g gw n : Nat) (l : List Int) (at_ : Int) (h : Ar w g gw l n) :
    Calls Try.prog 84 #[.pointer (some ⟨g, 0, none⟩), .int .i64 at_] w fun e w' => e = .returned (.tuple #[.int .i64 (innerI l at_).1, .int .i64 (innerI l at_).2]) ∧ ∃ nd, w' = w.drewN nd := by
  have HWD := Aside0.mk (word_calls w g gw n l at_ h)
  have hb := wordA_bd h.2.2.2.2 at_
  have HHO := Aside0.mk (fun W => word_HeadOf.calls (wordA l at_) (headOfI (wordA l at_)).1 (headOfI (wordA l at_)).2.1 (headOfI (wordA l at_)).2.2 W (headOf_eq (wordA l at_) hb.1 hb.2))
  unfold innerI
  generalize wordA l at_ = x at HWD HHO ⊢
  generalize headOfI x = hh at HHO ⊢
  obtain ⟨kd, sz, hd⟩ := hh
  cases hd with
  | false =>
    go_enter Try.func84, Try.ntmps84
    go_wp2_with fail
    refine HWD.out.mono ?_
    rintro e w1 ⟨rfl, nd, rfl⟩
    go_wp2_with fail
    refine (HHO.out _).mono ?_
    rintro e w2 ⟨rfl, nd2, rfl⟩
    go_wp2_with fail
    go_ret2
    exact ⟨rfl, _, rfl⟩
  | true =>
    by_cases k1 : kd = 1
    · subst k1
      go_enter Try.func84, Try.ntmps84
      go_wp2_with fail
      refine HWD.out.mono ?_
      rintro e w1 ⟨rfl, nd, rfl⟩
      go_wp2_with fail
      refine (HHO.out _).mono ?_
      rintro e w2 ⟨rfl, nd2, rfl⟩
      go_wp2_with fail
      go_ret2
      exact ⟨rfl, _, rfl⟩
    · have b1 : (kd == 1) = false := beq_eq_false_iff_ne.mpr k1
      by_cases k5 : kd = 5
      · subst k5
        by_cases hs : 1 < sz
        · have hs1 : (if 1 < sz then (1 : Int) else sz) = 1 := if_pos hs
          go_enter Try.func84, Try.ntmps84
          go_wp2_with fail
          refine HWD.out.mono ?_
          rintro e w1 ⟨rfl, nd, rfl⟩
          go_wp2_with fail
          refine (HHO.out _).mono ?_
          rintro e w2 ⟨rfl, nd2, rfl⟩
          go_wp2_with fail
          go_ret2
          exact ⟨by simp [hs], _, rfl⟩
        · go_enter Try.func84, Try.ntmps84
          go_wp2_with fail
          refine HWD.out.mono ?_
          rintro e w1 ⟨rfl, nd, rfl⟩
          go_wp2_with fail
          refine (HHO.out _).mono ?_
          rintro e w2 ⟨rfl, nd2, rfl⟩
          go_wp2_with fail
          go_ret2
          exact ⟨by simp [hs], _, rfl⟩
      · have b5 : (kd == 5) = false := beq_eq_false_iff_ne.mpr k5
        by_cases k6 : kd = 6
        · subst k6
          go_enter Try.func84, Try.ntmps84
          go_wp2_with fail
          refine HWD.out.mono ?_
          rintro e w1 ⟨rfl, nd, rfl⟩
          go_wp2_with fail
          refine (HHO.out _).mono ?_
          rintro e w2 ⟨rfl, nd2, rfl⟩
          go_wp2_with fail
          go_ret2
          exact ⟨rfl, _, rfl⟩
        · have b6 : (kd == 6) = false := beq_eq_false_iff_ne.mpr k6
          go_enter Try.func84, Try.ntmps84
          go_wp2_with fail
          refine HWD.out.mono ?_
          rintro e w1 ⟨rfl, nd, rfl⟩
          go_wp2_with fail
          refine (HHO.out _).mono ?_
          rintro e w2 ⟨rfl, nd2, rfl⟩
          go_wp2_with fail
          go_ret2
          exact ⟨by simp [k1, k5, k6], _, rfl⟩
end Go.Proofs.YtlifdpfhepamfaaCp
namespace Go.Proofs.YtlifdpfhepamfaaCm
open Go.RowKit Go.Maps Go.Proofs.YtlifdpfhepamfaaW.PrintWords Go.Proofs.YtlifdpfhepamfaaW.PrintLast Go.Proofs.YtlifdpfhepamfaaW.PrintMore Go.Proofs.YtlifdpfhepamfaaMem Go.Proofs.YtlifdpfhepamfaaLeaf Go.Proofs.YtlifdpfhepamfaaBits Go.Proofs.Ytlifdpfhepamfaa.PHe Go.Proofs.YtlifdpfhepamfaaRow Go.Proofs.YtlifdpfhepamfaaAr Go.Proofs.YtlifdpfhepamfaaHp Go.Proofs.YtlifdpfhepamfaaHo Go.Proofs.YtlifdpfhepamfaaWd Go.Proofs.YtlifdpfhepamfaaCp Go.Proofs.YtlifdpfhepamfaaTell Go.Proofs
set_option linter.unusedVariables false
set_option linter.unusedSimpArgs false
def T15 : Bool × List (List Nat × List Nat) := (true, [([], []), ([0], [0]), ([1], [1]), ([2], [2]), ([], []), ([], []), ([4, 5], [4, 5]), ([], []), ([7], [7]), ([8], [8]), ([9], [9]), ([10], [10]), ([11], [11]), ([12], [12]), ([], []), ([], []), ([14, 15], [14, 15]), ([13, 16], [13, 16]), ([3, 6, 17, 17], [3, 6, 17])])
def B15 : List Nat := [0, 1, 3, 7, 0, 0, 48, 0, 128, 384, 896, 1920, 3968, 8064, 0, 0, 49152, 130944, 262143]
theorem tab15 : rtab .any (opsOf Try.f85 15) = T15 := by kernel_rfl
theorem bits15 : waitsOk T15.2 B15 = true := by kernel_rfl
theorem lawI : Keyed Try.prog 3 := int_keyed Try.underlying3
def lk (now : List (Int × Nat)) (a : Int) : Option Nat := now.lookup a
/-- What the map of the moved says. -/
def DM (now : List (Int × Nat)) (D : DataW Unit) : Prop :=
  IsMap D ∧ ∀ a, (Maps.has D (.int .i64 a) = (lk now a).isSome) ∧ ∀ t, lk now a = some t → D.atKey (.int .i64 a) (.lit (.int .i64 0)) = .lit (.int .i64 (t : Int))
theorem DM.nil : DM [] (.map []) := ⟨isMap_empty, fun s => ⟨by simp [has_eq, lk], fun t h => by simp [lk] at h⟩⟩
theorem DM.cons {now : List (Int × Nat)} {D : DataW Unit} (h : DM now D) (a : Int) (t : Nat) : DM ((a, t) :: now) (D.put (.int .i64 a) (.lit (.int .i64 (t : Int)))) := by
  have hkey : WideAt.IsKeyLit (.int .i64 a) := trivial
  refine ⟨h.1.put _ _, fun b => ?_⟩
  by_cases e : b = a
  · subst e
    refine ⟨by rw [has_put_same h.1 hkey]; simp [lk], fun t' ht => ?_⟩
    rw [atKey_put_same h.1 hkey]
    simp [lk] at ht
    rw [ht]
  · have hne : (Lit.int .i64 b) ≠ .int .i64 a := fun q => by injection q with _ q; exact e q
    have hl : lk ((a, t) :: now) b = lk now b := by
      unfold lk
      rw [List.lookup_cons]
      rw [beq_eq_false_iff_ne.mpr e]
    refine ⟨by rw [has_put_other hne, (h.2 b).1, hl], fun t' ht => ?_⟩
    rw [atKey_put_other hne]
    exact (h.2 b).2 t' (by rw [← hl]; exact ht)
theorem ownsRow_mods {S : Nat → Prop} {W W1 : World} {b : Nat} {e : TypeId} {s : Nat} {v : Value} {n : Nat} {xs : List Value} (h : W.ownsRow b e s v n xs) (hm : Mods S W W1) (hn : ∀ k, v.ownBlock = some k → ¬ S k) : W1.ownsRow b e s v n xs := by
  obtain ⟨h1, h2⟩ := h
  refine ⟨h1, ?_⟩
  rcases h2 with h2 | ⟨g, cap, cur, rfl, hg, hh, r⟩
  · exact .inl h2
  · exact .inr ⟨g, cap, cur, rfl, hg, hm.blk hh (hn g rfl), r⟩
theorem ch_mods {S : Nat → Prop} {w w' : World} {ch : Nat} (h : Ch w ch) (hm : Mods S w w') (hn : ¬ S ch) : Ch w' ch := by
  obtain ⟨buf, s, h1, h2⟩ := h
  exact ⟨buf, s, hm.blk h1 hn, h2⟩
/-- A copying under way: the old heap, the new arena, where each object is. -/
structure Cs (w W : World) (gc h g gw m : Nat) (v : Value) (l : List Int) (n : Nat) (ns : List ByteArray) (g2 gw2 : Nat) (to_ : List Int) (n2 : Nat) (m2 ch : Nat) (now : List (Int × Nat)) (B : Nat) (v9 : Value) (out : List Int) : Prop where
  hp : Hp B W h g gw m v l n ns
  fo : ∀ k, SH h g gw m v k → k < w.heap.size
  ar : Ar W g2 gw2 to_ n2
  cb : W.heap[gc]? = some (.cells #[.pointer (some ⟨h, 0, none⟩), .pointer (some ⟨g2, 0, none⟩), .map (some m2), .chan (some ch)] 115 (0, 0))
  mp : ∃ D, W.ownsMap (H := Unit) Try.prog 3 (plainElem Try.prog 3) m2 now.length D ∧ DM now D
  cn : Ch W ch
  ge : w.heap.size ≤ gc ∧ w.heap.size ≤ g2 ∧ w.heap.size ≤ gw2 ∧ w.heap.size ≤ m2 ∧ w.heap.size ≤ ch
  ne : gc ≠ g2 ∧ gc ≠ gw2 ∧ gc ≠ m2 ∧ gc ≠ ch ∧ g2 ≠ m2 ∧ g2 ≠ ch ∧ gw2 ≠ m2 ∧ gw2 ≠ ch ∧ m2 ≠ ch
  tg : ∀ a t, lk now a = some t → t ≤ n2
  fw : now.length ≤ to_.length
  be : Below w.heap.size w W
  ow : W.ownsRow w.heap.size 25 1 v9 out.length (nums .u64 out)
  ap : ∀ k, v9.ownBlock = some k → k ≠ gc ∧ k ≠ g2 ∧ k ≠ gw2 ∧ k ≠ m2 ∧ k ≠ ch
section
variable {w W W1 : World} {gc h g gw m : Nat} {v : Value} {l : List Int} {n : Nat} {ns : List ByteArray} {g2 gw2 : Nat} {to_ to1 : List Int} {n2 m2 ch : Nat} {now now1 : List (Int × Nat)} {B : Nat} {v9 : Value} {out : List Int}
theorem Cs.below (H : Cs w W gc h g gw m v l n ns g2 gw2 to_ n2 m2 ch now B v9 out) (hb : Below W.heap.size W W1) : Cs w W1 gc h g gw m v l n ns g2 gw2 to_ n2 m2 ch now B v9 out := by
  obtain ⟨D, h1, h2⟩ := H.mp
  have hm := Mods.of_below (fun _ => False) hb
  exact ⟨H.hp.below hb, H.fo, H.ar.mods hm id id, (hb.block _ (blk_lt H.cb)).trans H.cb, ⟨D, owns_mods h1 hm id, h2⟩, ch_mods H.cn hm id, H.ge, H.ne, H.tg, H.fw, below_step H.be hb, ownsRow_mods H.ow hm (fun _ _ => id), H.ap⟩
theorem Cs.cells (H : Cs w W gc h g gw m v l n ns g2 gw2 to_ n2 m2 ch now B v9 out) : W.cell? ⟨gc, 0, none⟩ = some (.pointer (some ⟨h, 0, none⟩)) ∧ W.cell? ⟨gc, 1, none⟩ = some (.pointer (some ⟨g2, 0, none⟩)) ∧ W.cell? ⟨gc, 2, none⟩ = some (.map (some m2)) ∧ W.cell? ⟨h, 0, none⟩ = some (.pointer (some ⟨g, 0, none⟩)) :=
  ⟨(blk_cell H.cb 0).trans rfl, (blk_cell H.cb 1).trans rfl, (blk_cell H.cb 2).trans rfl, H.hp.cells.1⟩
theorem Cs.arena (H : Cs w W gc h g gw m v l n ns g2 gw2 to_ n2 m2 ch now B v9 out) (ha : Ar W1 g2 gw2 to1 n2) (hm : Mods (fun k => k = g2 ∨ k = gw2) W W1) (hl : to_.length ≤ to1.length) : Cs w W1 gc h g gw m v l n ns g2 gw2 to1 n2 m2 ch now B v9 out := by
  obtain ⟨D, h1, h2⟩ := H.mp
  obtain ⟨a1, a2, a3, a4, a5⟩ := H.ge
  obtain ⟨e1, e2, e3, e4, e5, e6, e7, e8, e9⟩ := H.ne
  exact ⟨H.hp.mods hm (fun k hk hs => by have := H.fo k hk; rcases hs with rfl | rfl <;> omega), H.fo, ha, hm.blk H.cb (by rintro (e | e); exact e1 e; exact e2 e), ⟨D, owns_mods h1 hm (by rintro (e | e); exact e5 e.symm; exact e7 e.symm), h2⟩,
    ch_mods H.cn hm (by rintro (e | e); exact e6 e.symm; exact e8 e.symm), H.ge, H.ne, H.tg, Nat.le_trans H.fw hl, below_mods H.be hm H.be.size (by rintro k (rfl | rfl) <;> omega), ownsRow_mods H.ow hm (by rintro k hk (e | e); exact (H.ap k hk).2.1 e; exact (H.ap k hk).2.2.1 e), H.ap⟩
theorem Cs.map (H : Cs w W gc h g gw m v l n ns g2 gw2 to_ n2 m2 ch now B v9 out) {D : DataW Unit} (ho : W1.ownsMap (H := Unit) Try.prog 3 (plainElem Try.prog 3) m2 now1.length D) (hd : DM now1 D) (hm : Mods (fun k => k = m2) W W1) (ht : ∀ a t, lk now1 a = some t → t ≤ n2) (hf : now1.length ≤ to_.length) : Cs w W1 gc h g gw m v l n ns g2 gw2 to_ n2 m2 ch now1 B v9 out := by
  obtain ⟨a1, a2, a3, a4, a5⟩ := H.ge
  obtain ⟨e1, e2, e3, e4, e5, e6, e7, e8, e9⟩ := H.ne
  exact ⟨H.hp.mods hm (fun k hk hs => by have := H.fo k hk; omega), H.fo, H.ar.mods hm e5 e7, hm.blk H.cb e3, ⟨D, ho, hd⟩, ch_mods H.cn hm (fun e => e9 e.symm), H.ge, H.ne, ht, hf, below_mods H.be hm H.be.size (by rintro k rfl; omega), ownsRow_mods H.ow hm (fun k hk e => (H.ap k hk).2.2.2.1 e), H.ap⟩
theorem Cs.chan (H : Cs w W gc h g gw m v l n ns g2 gw2 to_ n2 m2 ch now B v9 out) (hc : Ch W1 ch) (hm : Mods (fun k => k = ch) W W1) : Cs w W1 gc h g gw m v l n ns g2 gw2 to_ n2 m2 ch now B v9 out := by
  obtain ⟨D, h1, h2⟩ := H.mp
  obtain ⟨a1, a2, a3, a4, a5⟩ := H.ge
  obtain ⟨e1, e2, e3, e4, e5, e6, e7, e8, e9⟩ := H.ne
  exact ⟨H.hp.mods hm (fun k hk hs => by have := H.fo k hk; omega), H.fo, H.ar.mods hm e6 e8, hm.blk H.cb e4, ⟨D, owns_mods h1 hm e9, h2⟩, hc, H.ge, H.ne, H.tg, H.fw, below_mods H.be hm H.be.size (by rintro k rfl; omega), ownsRow_mods H.ow hm (fun k hk e => (H.ap k hk).2.2.2.2 e), H.ap⟩
end
theorem wI {x : Int} (h : 0 ≤ x ∧ x ≤ 1000000) : wrap64 x = x := by unfold wrap64; omega
/-- What is left behind a move: the word, whether it could be, the new arena, where each object is. -/
def moveF (l : List Int) (n2 : Nat) (to_ : List Int) (now : List (Int × Nat)) (x : Int) : Int × Bool × List Int × List (Int × Nat) :=
  if pointsI x = false then (x, true, to_, now)
  else if goodI l x = false then (0, false, to_, now)
  else match lk now (atI x) with
  | some t => (ptrW (x % 4) t, true, to_, now)
  | none => if (extA l (atI x)).toNat ≤ n2 - to_.length then (ptrW (x % 4) to_.length, true, to_ ++ (l.drop (atI x).toNat).take (extA l (atI x)).toNat, (atI x, to_.length) :: now) else (0, false, to_, now)
theorem good_at {l : List Int} {x : Int} (hp : pointsI x = true) (hg : goodI l x = true) : (x % 4 = 1 ∨ x % 4 = 2) ∧ 0 < extA l (atI x) ∧ 0 ≤ atI x ∧ atI x + extA l (atI x) ≤ (l.length : Int) := by
  have h1 : x % 4 = 1 ∨ x % 4 = 2 := by
    unfold pointsI at hp
    simpa using hp
  have h2 : 0 < extA l (atI x) := by
    unfold goodI at hg
    rcases h1 with h1 | h1
    · rw [if_neg (by omega), if_pos h1] at hg
      simp only [Bool.and_eq_true, decide_eq_true_eq] at hg
      exact hg.1
    · rw [if_neg (by omega), if_neg (by omega), if_pos h1] at hg
      simp only [Bool.and_eq_true, decide_eq_true_eq] at hg
      exact hg.1
  refine ⟨h1, h2, ?_, ?_⟩
  · unfold extA at h2
    split at h2
    · omega
    · omega
  · unfold extA at h2 ⊢
    split at h2
    · rename_i hc
      rw [if_pos hc]
      split at h2
      · rename_i hd
        rw [if_pos hd]
        omega
      · omega
    · omega
set_option maxHeartbeats 8000000 in
set_option maxRecDepth 100000 in
theorem move_calls (w W : World) (gc h g gw m : Nat) (v : Value) (l : List Int) (n : Nat) (ns : List ByteArray) (g2 gw2 : Nat) (to_ : List Int) (n2 : Nat) (m2 ch : Nat) (now : List (Int × Nat)) (B : Nat) (v9 : Value) (out : List Int) (x : Int) (H : Cs w W gc h g gw m v l n ns g2 gw2 to_ n2 m2 ch now B v9 out) (x0 : 0 ≤ x) (x1 : x < 18446744073709551616) :
    Calls Try.prog 85 #[.pointer (some ⟨gc, 0, none⟩), .int .u64 x] W fun e w' => e = .returned (.tuple #[.int .u64 (moveF l n2 to_ now x).1, .bool (moveF l n2 to_ now x).2.1]) ∧ Cs w w' gc h g gw m v l n ns g2 gw2 (moveF l n2 to_ now x).2.2.1 n2 m2 ch (moveF l n2 to_ now x).2.2.2 B v9 out := by
  have HC := Aside0.mk H
  have HPT := Aside0.mk (fun W' => points_calls x W')
  by_cases hp : pointsI x = true
  · by_cases hg : goodI l x = true
    · obtain ⟨t1, t2, t3, t4⟩ := good_at hp hg
      have HGD := Aside0.mk (fun W' (hH : Hp B W' h g gw m v l n ns) => good_calls W' B h g gw m v l n ns x hH x0 x1)
      rw [hg] at HGD
      rw [hp] at HPT
      have hln := H.hp.ar.2.2.1
      have hn32 := H.hp.ar.2.2.2.1
      have htag := tag_eq x
      have hat := at_eq x x0 x1
      obtain ⟨a, ha⟩ : ∃ a, atI x = a := ⟨_, rfl⟩
      rw [ha] at hat t2 t3 t4
      obtain ⟨tg, htg⟩ : ∃ tg, x % 4 = tg := ⟨_, rfl⟩
      rw [htg] at htag t1
      have hkey : keyOf Try.prog 3 (.int .i64 a) = some (.int .i64 a) := keyOf_int_mk Try.underlying3 (WalkArith.wf_i64 ⟨by omega, by omega⟩)
      have HAT := Aside0.mk (fun W' => word_At.calls x a W' hat)
      have HTG := Aside0.mk (fun W' => word_Tag.calls x tg W' htag)
      have HPR := Aside0.mk (fun W' (t : Nat) (ht : t ≤ 32768) => word_Pointer.calls tg (t : Int) _ W' (ptrW_eq tg t t1 ht))
      obtain ⟨e, he⟩ : ∃ e : Nat, extA l a = (e : Int) := ⟨(extA l a).toNat, by omega⟩
      rw [he] at t2 t4
      have HEX := Aside0.mk (fun W' (hH : Hp B W' h g gw m v l n ns) => Go.Proofs.YtlifdpfhepamfaaWd.extent_calls W' g gw n l a hH.ar)
      rw [he] at HEX
      have hn2 := H.ar.2.2.2.1
      have hto := H.ar.2.2.1
      cases hk : lk now a with
      | some t =>
        have hmv : moveF l n2 to_ now x = (ptrW tg t, true, to_, now) := by
          unfold moveF
          rw [if_neg (by rw [hp]; simp), if_neg (by rw [hg]; simp), ha, hk, htg]
        rw [hmv]
        have ht2 := H.tg a t hk
        have HPR2 := Aside0.mk (fun W' => HPR.out W' t (by omega))
        clear H hp hg hmv ha htg htag hat HPR HEX
        go_enter Try.func85, Try.ntmps85
        go_wp2_with fail
        refine (HPT.out _).mono ?_
        rintro e w1 ⟨rfl, nd, rfl⟩
        have HC1 := Aside0.mk (HC.out.below (pw_below_drewN (Below.refl _ W) nd))
        obtain ⟨c0, c1, c2, c3⟩ := HC1.out.cells
        go_wp2_with fail
        refine (HGD.out _ HC1.out.hp).mono ?_
        rintro e w2 ⟨rfl, nd2, rfl⟩
        clear c0 c1 c2 c3
        go_wp2_with fail
        refine (HAT.out _).mono ?_
        rintro e w3 ⟨rfl, nd3, rfl⟩
        have HC3 := Aside0.mk (HC.out.below (pw_below_drewN (Below.refl _ W) (nd + nd2 + nd3)))
        obtain ⟨c0, c1, c2, c3⟩ := HC3.out.cells
        obtain ⟨D, hown, hD⟩ := HC3.out.mp
        have hhas := (hD.2 a).1
        rw [hk] at hhas
        have hatk := (hD.2 a).2 t hk
        have HOWN := Aside0.mk hown
        clear hown hD hk
        go_wp2_with (at_lookup; refine wpList_lookup_own_ok_int _ rfl _ _ 112 rfl 3 3 .i64 lawI Try.underlying112 Try.underlying3 (zeroI _) m2 now.length D rfl HOWN.out _ _ rfl hkey ?_; intro c hat' hwc)
        have hc : c = (t : Int) := by
          rw [hatk] at hat'
          injection hat' with hat'
          injection hat' with _ hat'
          exact hat'.symm
        subst hc
        refine (HTG.out _).mono ?_
        rintro e w4 ⟨rfl, nd4, rfl⟩
        clear hat' hatk hhas hwc c0 c1 c2 c3
        go_wp2_with fail
        refine (HPR2.out _).mono ?_
        rintro e w5 ⟨rfl, hb5⟩
        have HC5 := Aside0.mk ((HC.out.below (pw_below_drewN (Below.refl _ W) (nd + nd2 + nd3 + nd4))).below hb5)
        clear hb5
        go_wp2_with fail
        go_ret2
        exact ⟨rfl, HC5.out⟩
      | none =>
        have HAL := Aside0.mk (fun W' (hA : Ar W' g2 gw2 to_ n2) => alloc_calls W' g2 gw2 n2 to_ (e : Int) hA)
        by_cases hroom : e ≤ n2 - to_.length
        · have hmv : moveF l n2 to_ now x = (ptrW tg to_.length, true, to_ ++ (l.drop a.toNat).take e, (a, to_.length) :: now) := by
            unfold moveF
            rw [if_neg (by rw [hp]; simp), if_neg (by rw [hg]; simp), ha, hk, htg]
            simp only [he, Int.toNat_natCast]
            rw [if_pos hroom]
          rw [hmv]
          have hwl : ((l.drop a.toNat).take e).length = e := by rw [List.length_take, List.length_drop]; omega
          obtain ⟨ws, hws⟩ : ∃ ws, (l.drop a.toNat).take e = ws := ⟨_, rfl⟩
          rw [hws] at hwl ⊢
          have hwg : ∀ i, i < e → wordA l (a + (i : Int)) = ws.getD i 0 := by
            intro i hi
            unfold wordA
            rw [if_pos (by omega), ← hws, List.getD_eq_getElem?_getD, List.getD_eq_getElem?_getD, List.getElem?_take, if_pos hi, List.getElem?_drop, show (a + (i : Int)).toNat = a.toNat + i by omega]
          have hwb : W64 ws := by
            intro y hy
            rw [← hws] at hy
            exact H.hp.ar.2.2.2.2 y (List.mem_of_mem_drop (List.mem_of_mem_take hy))
          have ok : okA to_ n2 (e : Int) = true := by unfold okA; simp; omega
          have ra : resA to_ n2 (e : Int) = midL to_ ws 0 := by unfold resA; rw [ok, if_pos rfl, midL_zero, hwl, Int.toNat_natCast]
          have aa : atA to_ n2 (e : Int) = (to_.length : Nat) := by unfold atA; rw [ok, if_pos rfl]
          rw [ok, ra, aa] at HAL
          have HPR2 := Aside0.mk (fun W' => HPR.out W' to_.length (by omega))
          have HWG := Aside0.mk hwg
          have HWB := Aside0.mk hwb
          have HWL := Aside0.mk hwl
          have HKN := Aside0.mk hk
          obtain ⟨tl, htl⟩ : ∃ tl, to_.length = tl := ⟨_, rfl⟩
          have HTL := Aside0.mk htl
          rw [htl] at HAL HPR2 hroom hto ⊢
          clear H hp hg hmv ha htg htag hat HPR hws hwg hwb hwl ok ra aa he htl
          go_enter Try.func85, Try.ntmps85
          go_wp2_with fail
          refine (HPT.out _).mono ?_
          rintro e_ w1 ⟨rfl, nd, rfl⟩
          have HC1 := Aside0.mk (HC.out.below (pw_below_drewN (Below.refl _ W) nd))
          obtain ⟨c0, c1, c2, c3⟩ := HC1.out.cells
          go_wp2_with fail
          refine (HGD.out _ HC1.out.hp).mono ?_
          rintro e_ w2 ⟨rfl, nd2, rfl⟩
          clear c0 c1 c2 c3
          go_wp2_with fail
          refine (HAT.out _).mono ?_
          rintro e_ w3 ⟨rfl, nd3, rfl⟩
          have HC3 := Aside0.mk (HC.out.below (pw_below_drewN (Below.refl _ W) (nd + nd2 + nd3)))
          obtain ⟨c0, c1, c2, c3⟩ := HC3.out.cells
          obtain ⟨D, hown, hD⟩ := HC3.out.mp
          have hhas := (hD.2 a).1
          rw [hk] at hhas
          have HOWN := Aside0.mk hown
          clear hown hD hk
          go_wp2_with (at_lookup; refine wpList_lookup_own_ok_int _ rfl _ _ 112 rfl 3 3 .i64 lawI Try.underlying112 Try.underlying3 (zeroI _) m2 now.length D rfl HOWN.out _ _ rfl hkey ?_; intro c hat' hwc)
          refine (HEX.out _ HC3.out.hp).mono ?_
          rintro e_ w4 ⟨rfl, nd4, rfl⟩
          have HC4 := Aside0.mk (HC.out.below (pw_below_drewN (Below.refl _ W) (nd + nd2 + nd3 + nd4)))
          clear hat' hhas hwc c0 c1 c2 c3
          obtain ⟨c0, c1, c2, c3⟩ := HC4.out.cells
          go_wp2_with fail
          refine (HAL.out _ HC4.out.ar).mono ?_
          rintro e_ w5 ⟨rfl, ha5, hm5⟩
          have HC5 := Aside0.mk (HC4.out.arena ha5 (hm5.mono (S' := fun k => k = g2 ∨ k = gw2) (fun k hk => .inl hk)) (by rw [midL_zero]; simp))
          clear ha5 hm5 HOWN c0 c1 c2 c3 HC1 HC3 HC4
          go_wp2_with fail
          go_loopg [56] e (fun q v56 wr => ∃ i : Nat, q = e - i ∧ i ≤ e ∧ v56 = .int .i64 i ∧ Aside0 (Cs w wr gc h g gw m v l n ns g2 gw2 (midL to_ ws i) n2 m2 ch now B v9 out))
          case atStart => exact ⟨0, by omega, by omega, rfl, HC5⟩
          case round =>
            obtain ⟨i, rfl, hi, rfl, HL⟩ := hrel
            by_cases hlt : i < e
            · have b1 : (i : Int) < (e : Int) := by omega
              have HW15 := Aside0.mk (fun W' (hb : Below wr.heap.size wr W') => (show Calls Try.prog 55 #[.pointer (some ⟨g, 0, none⟩), .int .i64 (a + (i : Int))] W' fun e w' => e = .returned (.int .u64 (ws.getD i 0)) ∧ Below W'.heap.size W' w' from by have q := word_calls W' g gw n l (a + (i : Int)) (HL.out.below hb).hp.ar; rw [HWG.out i hlt] at q; exact q.mono (by rintro e w' ⟨rfl, nd, rfl⟩; exact ⟨rfl, pw_below_drewN (Below.refl _ W') nd⟩)))
              have hbw := HWB.out.getD i
              have hsu := midL_succ to_ ws i (by rw [HWL.out]; omega)
              rw [HTL.out, Int.natCast_add] at hsu
              have HS15 := Aside0.mk (fun W' (hb : Below wr.heap.size wr W') => (show Calls Try.prog 46 #[.pointer (some ⟨g2, 0, none⟩), .int .i64 ((tl : Int) + (i : Int)), .int .u64 (ws.getD i 0)] W' fun e w' => e = .returned (.tuple #[]) ∧ Ar w' g2 gw2 (midL to_ ws (i + 1)) n2 ∧ Mods (fun i => i = gw2) W' w' from by have q := set_calls W' g2 gw2 n2 (midL to_ ws i) ((tl : Int) + (i : Int)) (ws.getD i 0) (HL.out.below hb).ar hbw.1 hbw.2; rw [hsu] at q; exact q))
              have e1 : wrap64 ((tl : Int) + (i : Int)) = (tl : Int) + (i : Int) := Go.Proofs.YtlifdpfhepamfaaCm.wI (by omega)
              have e2 : wrap64 (a + (i : Int)) = a + (i : Int) := Go.Proofs.YtlifdpfhepamfaaCm.wI (by omega)
              have HE1 := Aside0.mk e1
              have HE2 := Aside0.mk e2
              clear hbw hsu e1 e2
              obtain ⟨Y, hY⟩ : ∃ Y, wr = Y := ⟨_, rfl⟩
              rw [hY] at HL HW15 HS15
              generalize ws.getD i 0 = y at HW15 HS15
              go_wp2_with fail
              clear hY
              have HBB := Aside0.mk (below_drew (Below.refl Y.heap.size Y))
              refine start_ (n := 19) (S := fun w' => Below Y.heap.size Y w') (ds := [18]) #[false, false, false, false, false, false, false, false, false, false, false, false, false, false, false, false, false, false, false] (by kernel_rfl) rfl rfl HBB.out (fun hHeld => ?_); refine with_tabW tab15 bits15 (fun HT_ HW_ => ?_)
              generalize Y.drew = wd at HBB hHeld ⊢
              refine pure_ (i := 0) (N := (some 59)) (v := ?_) (a' := ?_) #[true, false, false, false, false, false, false, false, false, false, false, false, false, false, false, false, false, false, false] rfl rfl (any_of HT_.out (by kernel_rfl)) (fun _ _ _ h => h) (Or.inl ⟨by rfl, ?_⟩) ?_ ?_
              rotate_left; (intro w'; go_simp; with_reducible rfl)
              rotate_left; (simp only [Act.put, List.setIfInBounds_toArray, List.set_cons_zero, List.set_cons_succ, i64_w, i32_w]; rfl)
              refine pure_ (i := 1) (N := (some 60)) (v := ?_) (a' := ?_) #[true, true, false, false, false, false, false, false, false, false, false, false, false, false, false, false, false, false, false] rfl rfl (any_of HT_.out (by kernel_rfl)) (fun _ _ _ h => h) (Or.inl ⟨by rfl, ?_⟩) ?_ ?_
              rotate_left; (intro w'; go_simp; with_reducible rfl)
              rotate_left; (simp only [Act.put, List.setIfInBounds_toArray, List.set_cons_zero, List.set_cons_succ, i64_w, i32_w]; rfl)
              refine pure_ (i := 2) (N := (some 61)) (v := ?_) (a' := ?_) #[true, true, true, false, false, false, false, false, false, false, false, false, false, false, false, false, false, false, false] rfl rfl (any_of HT_.out (by kernel_rfl)) (fun _ _ _ h => h) (Or.inl ⟨by rfl, ?_⟩) ?_ ?_
              rotate_left; (intro w'; go_simp; with_reducible rfl)
              rotate_left; (simp only [Act.put, List.setIfInBounds_toArray, List.set_cons_zero, List.set_cons_succ, i64_w, i32_w]; rfl)
              refine take_ (i := 3) (N := (some 62)) (v := (.pointer (some ⟨g2, 0, none⟩))) (a' := ?_) #[true, true, true, true, false, false, false, false, false, false, false, false, false, false, false, false, false, false, false] rfl rfl (take_ofW HT_.out HW_.out (by kernel_rfl)) (fun _ _ _ h => h) (Or.inl ⟨by rfl, ?_⟩) hHeld ?_ ?_
              · (intro w' hs; obtain ⟨c0, c1, c2, c3⟩ := (HL.out.below hs).cells; go_simp)
              rotate_left; (simp only [Act.put, List.setIfInBounds_toArray, List.set_cons_zero, List.set_cons_succ, i64_w, i32_w]; rfl)
              refine pure_ (i := 4) (N := (some 63)) (v := ?_) (a' := ?_) #[true, true, true, true, true, false, false, false, false, false, false, false, false, false, false, false, false, false, false] rfl rfl (any_of HT_.out (by kernel_rfl)) (fun _ _ _ h => h) (Or.inl ⟨by rfl, ?_⟩) ?_ ?_
              rotate_left; (intro w'; go_simp; with_reducible rfl)
              rotate_left; (simp only [Act.put, List.setIfInBounds_toArray, List.set_cons_zero, List.set_cons_succ, i64_w, i32_w]; rfl)
              refine pure_ (i := 5) (N := (some 64)) (v := ?_) (a' := ?_) #[true, true, true, true, true, true, false, false, false, false, false, false, false, false, false, false, false, false, false] rfl rfl (any_of HT_.out (by kernel_rfl)) (fun _ _ _ h => h) (Or.inl ⟨by rfl, ?_⟩) ?_ ?_
              rotate_left; (intro w'; go_simp; with_reducible rfl)
              rotate_left; (simp only [Act.put, List.setIfInBounds_toArray, List.set_cons_zero, List.set_cons_succ, i64_w, i32_w]; rfl)
              refine pure_ (i := 6) (N := (some 65)) (v := (.int .i64 ((tl : Int) + (i : Int)))) (a' := ?_) #[true, true, true, true, true, true, true, false, false, false, false, false, false, false, false, false, false, false, false] rfl rfl (any_of HT_.out (by kernel_rfl)) (fun _ _ _ h => h) (Or.inl ⟨by rfl, ?_⟩) ?_ ?_
              · (intro w'; go_simp; rw [i64_w]; exact HE1.out)
              rotate_left; (simp only [Act.put, List.setIfInBounds_toArray, List.set_cons_zero, List.set_cons_succ, i64_w, i32_w]; rfl)
              refine pure_ (i := 7) (N := (some 66)) (v := ?_) (a' := ?_) #[true, true, true, true, true, true, true, true, false, false, false, false, false, false, false, false, false, false, false] rfl rfl (any_of HT_.out (by kernel_rfl)) (fun _ _ _ h => h) (Or.inl ⟨by rfl, ?_⟩) ?_ ?_
              rotate_left; (intro w'; go_simp; with_reducible rfl)
              rotate_left; (simp only [Act.put, List.setIfInBounds_toArray, List.set_cons_zero, List.set_cons_succ, i64_w, i32_w]; rfl)
              refine pure_ (i := 8) (N := (some 67)) (v := ?_) (a' := ?_) #[true, true, true, true, true, true, true, true, true, false, false, false, false, false, false, false, false, false, false] rfl rfl (any_of HT_.out (by kernel_rfl)) (fun _ _ _ h => h) (Or.inl ⟨by rfl, ?_⟩) ?_ ?_
              rotate_left; (intro w'; go_simp; with_reducible rfl)
              rotate_left; (simp only [Act.put, List.setIfInBounds_toArray, List.set_cons_zero, List.set_cons_succ, i64_w, i32_w]; rfl)
              refine pure_ (i := 9) (N := (some 68)) (v := ?_) (a' := ?_) #[true, true, true, true, true, true, true, true, true, true, false, false, false, false, false, false, false, false, false] rfl rfl (any_of HT_.out (by kernel_rfl)) (fun _ _ _ h => h) (Or.inl ⟨by rfl, ?_⟩) ?_ ?_
              rotate_left; (intro w'; go_simp; with_reducible rfl)
              rotate_left; (simp only [Act.put, List.setIfInBounds_toArray, List.set_cons_zero, List.set_cons_succ, i64_w, i32_w]; rfl)
              refine take_ (i := 10) (N := (some 69)) (v := (.pointer (some ⟨h, 0, none⟩))) (a' := ?_) #[true, true, true, true, true, true, true, true, true, true, true, false, false, false, false, false, false, false, false] rfl rfl (take_ofW HT_.out HW_.out (by kernel_rfl)) (fun _ _ _ h => h) (Or.inl ⟨by rfl, ?_⟩) hHeld ?_ ?_
              · (intro w' hs; obtain ⟨c0, c1, c2, c3⟩ := (HL.out.below hs).cells; go_simp)
              rotate_left; (simp only [Act.put, List.setIfInBounds_toArray, List.set_cons_zero, List.set_cons_succ, i64_w, i32_w]; rfl)
              refine pure_ (i := 11) (N := (some 70)) (v := ?_) (a' := ?_) #[true, true, true, true, true, true, true, true, true, true, true, true, false, false, false, false, false, false, false] rfl rfl (any_of HT_.out (by kernel_rfl)) (fun _ _ _ h => h) (Or.inl ⟨by rfl, ?_⟩) ?_ ?_
              rotate_left; (intro w'; go_simp; with_reducible rfl)
              rotate_left; (simp only [Act.put, List.setIfInBounds_toArray, List.set_cons_zero, List.set_cons_succ, i64_w, i32_w]; rfl)
              refine pure_ (i := 12) (N := (some 71)) (v := ?_) (a' := ?_) #[true, true, true, true, true, true, true, true, true, true, true, true, true, false, false, false, false, false, false] rfl rfl (any_of HT_.out (by kernel_rfl)) (fun _ _ _ h => h) (Or.inl ⟨by rfl, ?_⟩) ?_ ?_
              rotate_left; (intro w'; go_simp; with_reducible rfl)
              rotate_left; (simp only [Act.put, List.setIfInBounds_toArray, List.set_cons_zero, List.set_cons_succ, i64_w, i32_w]; rfl)
              refine take_ (i := 13) (N := (some 72)) (v := (.pointer (some ⟨g, 0, none⟩))) (a' := ?_) #[true, true, true, true, true, true, true, true, true, true, true, true, true, true, false, false, false, false, false] rfl rfl (take_ofW HT_.out HW_.out (by kernel_rfl)) (fun _ _ _ h => h) (Or.inl ⟨by rfl, ?_⟩) hHeld ?_ ?_
              · (intro w' hs; obtain ⟨c0, c1, c2, c3⟩ := (HL.out.below hs).cells; go_simp)
              rotate_left; (simp only [Act.put, List.setIfInBounds_toArray, List.set_cons_zero, List.set_cons_succ, i64_w, i32_w]; rfl)
              refine pure_ (i := 14) (N := (some 73)) (v := ?_) (a' := ?_) #[true, true, true, true, true, true, true, true, true, true, true, true, true, true, true, false, false, false, false] rfl rfl (any_of HT_.out (by kernel_rfl)) (fun _ _ _ h => h) (Or.inl ⟨by rfl, ?_⟩) ?_ ?_
              rotate_left; (intro w'; go_simp; with_reducible rfl)
              rotate_left; (simp only [Act.put, List.setIfInBounds_toArray, List.set_cons_zero, List.set_cons_succ, i64_w, i32_w]; rfl)
              refine pure_ (i := 15) (N := (some 74)) (v := ?_) (a' := ?_) #[true, true, true, true, true, true, true, true, true, true, true, true, true, true, true, true, false, false, false] rfl rfl (any_of HT_.out (by kernel_rfl)) (fun _ _ _ h => h) (Or.inl ⟨by rfl, ?_⟩) ?_ ?_
              rotate_left; (intro w'; go_simp; with_reducible rfl)
              rotate_left; (simp only [Act.put, List.setIfInBounds_toArray, List.set_cons_zero, List.set_cons_succ, i64_w, i32_w]; rfl)
              refine pure_ (i := 16) (N := (some 75)) (v := (.int .i64 (a + (i : Int)))) (a' := ?_) #[true, true, true, true, true, true, true, true, true, true, true, true, true, true, true, true, true, false, false] rfl rfl (any_of HT_.out (by kernel_rfl)) (fun _ _ _ h => h) (Or.inl ⟨by rfl, ?_⟩) ?_ ?_
              · (intro w'; go_simp; rw [i64_w]; exact HE2.out)
              rotate_left; (simp only [Act.put, List.setIfInBounds_toArray, List.set_cons_zero, List.set_cons_succ, i64_w, i32_w]; rfl)
              refine one_ (i := 17) (N := (some 76)) #[true, true, true, true, true, true, true, true, true, true, true, true, true, true, true, true, true, true, false] rfl rfl (one_of HT_.out (by kernel_rfl)) (by decide) (fun K hK => ?_)
              refine goes_ Try.func55 (by kernel_rfl) rfl #[.pointer (some ⟨g, 0, none⟩), .int .i64 (a + (i : Int))] (by rfl) rfl rfl (by (try simp only [List.map_toArray, List.map_cons, List.map_nil]); first | done | rfl) ?_
              refine (HW15.out _ HBB.out).mono ?_
              rintro e wn ⟨rfl, hb⟩
              refine ⟨_, rfl, ?_⟩
              have n0_ := Aside0.mk (below_step HBB.out hb)
              clear HBB hHeld hb
              have HBB := n0_
              clear n0_
              refine hK.out _ _ HBB.out (fun hHeld => ?_)
              clear hK K
              refine norm_ (a' := ?_) ?_ ?_
              rotate_left
              · show Act.put _ (some 76) _ = _
                simp only [Act.put, List.setIfInBounds_toArray, List.set_cons_zero, List.set_cons_succ, i64_w, i32_w]
                rfl
              refine last_ (i := 18) (N := some 77) #[true, true, true, true, true, true, true, true, true, true, true, true, true, true, true, true, true, true, true] rfl rfl (one_of HT_.out (by kernel_rfl)) (by decide) (fun K hK => ?_)
              refine goes_ Try.func46 (by kernel_rfl) rfl #[.pointer (some ⟨g2, 0, none⟩), .int .i64 ((tl : Int) + (i : Int)), .int .u64 y] (by rfl) rfl rfl (by (try simp only [List.map_toArray, List.map_cons, List.map_nil]); first | done | rfl) ?_
              refine (HS15.out _ HBB.out).mono ?_
              rintro e_ wm ⟨rfl, ha7, hm7⟩
              refine ⟨_, rfl, ?_⟩
              have HL7 := Aside0.mk ((HL.out.below HBB.out).arena ha7 (hm7.mono (S' := fun k => k = g2 ∨ k = gw2) (fun k hk => .inr hk)) (by simp [midL]; omega))
              clear ha7 hm7
              refine hK.out _ _ ?_
              clear hK K
              refine norm_ (a' := ?_) ?_ ?_
              rotate_left
              · show Act.put _ (some 77) _ = _
                simp only [Act.put, List.setIfInBounds_toArray, List.set_cons_zero, List.set_cons_succ, i64_w, i32_w]
                rfl
              refine done_ (done_of HT_.out (by kernel_rfl)) ?_
              go_wp2_with fail
              go_roundg (e - (i + 1))
              case measure => omega
              case rel => exact ⟨i + 1, rfl, by omega, by go_num, HL7⟩
            · obtain rfl : i = e := by omega
              have b1 : ¬ (i : Int) < (i : Int) := by omega
              have hall : midL to_ ws i = to_ ++ ws := by rw [← HWL.out]; exact midL_all to_ ws
              rw [hall] at HL
              obtain ⟨D, hown, hD⟩ := HL.out.mp
              obtain ⟨c0, c1, c2, c3⟩ := HL.out.cells
              have hfw := HL.out.fw
              have hll := HL.out.ar.2.2.1
              have hnl : now.length < maxLen := by unfold maxLen; omega
              have HOWN := Aside0.mk hown
              have HDM := Aside0.mk hD
              have HNL := Aside0.mk hnl
              have hfo : ((a, tl) :: now).length ≤ (to_ ++ ws).length := by
                have h1 := HC.out.fw
                have h2 := HWL.out
                have h3 := HTL.out
                rw [List.length_cons, List.length_append]
                omega
              have HFO := Aside0.mk hfo
              clear hall hown hD hfw hll hnl hfo
              go_wp2_with (at_mapUpdate; refine wpList_mapUpdate_own _ rfl _ _ _ 112 rfl 3 3 lawI Try.underlying112 _ m2 now.length D rfl HOWN.out HNL.out _ _ _ rfl rfl hkey _ [] (plainElem_int Try.underlying3 (WalkArith.wf_i64 (n := (tl : Int)) ⟨by omega, by omega⟩)) ?_; intro w7 hown7 hg7)
              have HC7 := Aside0.mk (HL.out.map (now1 := (a, tl) :: now) hown7 (HDM.out.cons a tl) ((Mods.of_grown hg7).mono (fun k hk => by injection hk)) (by
                intro a' t' hl'
                unfold lk at hl'
                rw [List.lookup_cons] at hl'
                by_cases hq : a' = a
                · rw [hq, beq_self_eq_true] at hl'
                  injection hl' with hl'
                  omega
                · rw [beq_eq_false_iff_ne.mpr hq] at hl'
                  exact HC.out.tg a' t' hl') HFO.out)
              have HTE := Aside0.mk (tell_calls w7 gc ch _ _ _ a HC7.out.cb HC7.out.cn)
              clear hown7 hg7 HOWN HDM HNL HFO HL c0 c1 c2 c3
              go_wp2_with fail
              refine HTE.out.mono ?_
              rintro e_ w8 ⟨rfl, hc8, hm8⟩
              have HC8 := Aside0.mk (HC7.out.chan hc8 hm8)
              clear hc8 hm8 HTE HC7
              go_wp2_with fail
              refine (HTG.out _).mono ?_
              rintro e_ w9 ⟨rfl, nd9, rfl⟩
              go_wp2_with fail
              refine (HPR2.out _).mono ?_
              rintro e_ w10 ⟨rfl, hb10⟩
              have HC10 := Aside0.mk ((HC8.out.below (pw_below_drewN (Below.refl _ w8) nd9)).below hb10)
              clear hb10
              go_wp2_with fail
              go_ret2
              exact ⟨rfl, HC10.out⟩
        · have hmv : moveF l n2 to_ now x = (0, false, to_, now) := by
            unfold moveF
            rw [if_neg (by rw [hp]; simp), if_neg (by rw [hg]; simp), ha, hk, htg]
            simp only [he, Int.toNat_natCast]
            rw [if_neg hroom]
          rw [hmv]
          have ok : okA to_ n2 (e : Int) = false := by unfold okA; simp; omega
          have ra : resA to_ n2 (e : Int) = to_ := by unfold resA; rw [ok]; rfl
          have aa : atA to_ n2 (e : Int) = 0 := by unfold atA; rw [ok]; rfl
          rw [ok, ra, aa] at HAL
          clear H hp hg hmv ha htg htag hat HPR ok ra aa he
          go_enter Try.func85, Try.ntmps85
          go_wp2_with fail
          refine (HPT.out _).mono ?_
          rintro e_ w1 ⟨rfl, nd, rfl⟩
          have HC1 := Aside0.mk (HC.out.below (pw_below_drewN (Below.refl _ W) nd))
          obtain ⟨c0, c1, c2, c3⟩ := HC1.out.cells
          go_wp2_with fail
          refine (HGD.out _ HC1.out.hp).mono ?_
          rintro e_ w2 ⟨rfl, nd2, rfl⟩
          clear c0 c1 c2 c3
          go_wp2_with fail
          refine (HAT.out _).mono ?_
          rintro e_ w3 ⟨rfl, nd3, rfl⟩
          have HC3 := Aside0.mk (HC.out.below (pw_below_drewN (Below.refl _ W) (nd + nd2 + nd3)))
          obtain ⟨c0, c1, c2, c3⟩ := HC3.out.cells
          obtain ⟨D, hown, hD⟩ := HC3.out.mp
          have hhas := (hD.2 a).1
          rw [hk] at hhas
          have HOWN := Aside0.mk hown
          clear hown hD hk
          go_wp2_with (at_lookup; refine wpList_lookup_own_ok_int _ rfl _ _ 112 rfl 3 3 .i64 lawI Try.underlying112 Try.underlying3 (zeroI _) m2 now.length D rfl HOWN.out _ _ rfl hkey ?_; intro c hat' hwc)
          refine (HEX.out _ HC3.out.hp).mono ?_
          rintro e_ w4 ⟨rfl, nd4, rfl⟩
          have HC4 := Aside0.mk (HC.out.below (pw_below_drewN (Below.refl _ W) (nd + nd2 + nd3 + nd4)))
          clear hat' hhas hwc c0 c1 c2 c3
          obtain ⟨c0, c1, c2, c3⟩ := HC4.out.cells
          go_wp2_with fail
          refine (HAL.out _ HC4.out.ar).mono ?_
          rintro e_ w5 ⟨rfl, ha5, hm5⟩
          have HC5 := Aside0.mk (HC4.out.arena ha5 (hm5.mono (S' := fun k => k = g2 ∨ k = gw2) (fun k hk => .inl hk)) (Nat.le_refl _))
          clear ha5 hm5 HOWN c0 c1 c2 c3 HC1 HC3 HC4
          go_wp2_with fail
          go_ret2
          exact ⟨rfl, HC5.out⟩
    · have hg' : goodI l x = false := by simpa using hg
      have hmv : moveF l n2 to_ now x = (0, false, to_, now) := by unfold moveF; rw [if_neg (by rw [hp]; simp), if_pos hg']
      rw [hmv]
      have HGD := Aside0.mk (fun W' (hH : Hp B W' h g gw m v l n ns) => good_calls W' B h g gw m v l n ns x hH x0 x1)
      rw [hg'] at HGD
      rw [hp] at HPT
      clear H hp hg hg' hmv
      go_enter Try.func85, Try.ntmps85
      go_wp2_with fail
      refine (HPT.out _).mono ?_
      rintro e w1 ⟨rfl, nd, rfl⟩
      have HC1 := Aside0.mk (HC.out.below (pw_below_drewN (Below.refl _ W) nd))
      obtain ⟨c0, c1, c2, c3⟩ := HC1.out.cells
      go_wp2_with fail
      refine (HGD.out _ HC1.out.hp).mono ?_
      rintro e w2 ⟨rfl, nd2, rfl⟩
      have HC2 := Aside0.mk (HC.out.below (pw_below_drewN (Below.refl _ W) (nd + nd2)))
      go_wp2_with fail
      go_ret2
      exact ⟨rfl, HC2.out⟩
  · have hp' : pointsI x = false := by simpa using hp
    have hmv : moveF l n2 to_ now x = (x, true, to_, now) := by unfold moveF; rw [if_pos hp']
    rw [hmv]
    rw [hp'] at HPT
    clear H hp hp' hmv
    go_enter Try.func85, Try.ntmps85
    go_wp2_with fail
    refine (HPT.out _).mono ?_
    rintro e w1 ⟨rfl, nd, rfl⟩
    have HC1 := Aside0.mk (HC.out.below (pw_below_drewN (Below.refl _ W) nd))
    go_wp2_with fail
    go_ret2
    exact ⟨rfl, HC1.out⟩
end Go.Proofs.YtlifdpfhepamfaaCm
namespace Go.Proofs.YtlifdpfhepamfaaCk
open Go.RowKit Go.Maps Go.Proofs.YtlifdpfhepamfaaW.PrintWords Go.Proofs.YtlifdpfhepamfaaW.PrintLast Go.Proofs.YtlifdpfhepamfaaW.PrintMore Go.Proofs.YtlifdpfhepamfaaMem Go.Proofs.YtlifdpfhepamfaaLeaf Go.Proofs.YtlifdpfhepamfaaBits Go.Proofs.Ytlifdpfhepamfaa.PHe Go.Proofs.YtlifdpfhepamfaaRow Go.Proofs.YtlifdpfhepamfaaAr Go.Proofs.YtlifdpfhepamfaaHp Go.Proofs.YtlifdpfhepamfaaHo Go.Proofs.YtlifdpfhepamfaaWd Go.Proofs.YtlifdpfhepamfaaCp Go.Proofs.YtlifdpfhepamfaaTell Go.Proofs.YtlifdpfhepamfaaCm Go.Proofs
set_option linter.unusedVariables false
set_option linter.unusedSimpArgs false
def T1 : Bool × List (List Nat × List Nat) := (true, [([], []), ([], []), ([1], [1]), ([], []), ([], []), ([0, 2, 3, 4], [0, 2, 3, 4]), ([5], [5]), ([6, 2, 0, 1, 2, 3, 4, 5, 6], [6])])
def B1 : List Nat := [0, 0, 2, 0, 0, 31, 63, 127]
def O1 : Array Oper := #[{ dst := some 20, op := Op.move (Operand.tmp 0), type := 23, pos := "copying.go:78", after := #[], guard := none }, { dst := some 21, op := Op.move (Operand.tmp 2), type := 3, pos := "copying.go:78", after := #[], guard := none }, { dst := some 22, op := Op.call { callee := Callee.value (Operand.func 62), args := #[Operand.tmp 21], argTypes := #[3] }, type := 52, pos := "copying.go:78", after := #[{ on := 1, ground := Ground.data }], guard := none }, { dst := some 23, op := Op.makeMap 112 none, type := 112, pos := "copying.go:78", after := #[], guard := none }, { dst := some 24, op := Op.makeChan 113 (Operand.const (Value.int IntKind.i64 1)), type := 113, pos := "copying.go:78", after := #[], guard := none }, { dst := some 25, op := Op.build 115 #[(0, Operand.tmp 20), (1, Operand.tmp 22), (2, Operand.tmp 23), (3, Operand.tmp 24)], type := 115, pos := "copying.go:78", after := #[{ on := 0, ground := Ground.data }, { on := 2, ground := Ground.data }, { on := 3, ground := Ground.data }, { on := 4, ground := Ground.data }], guard := none }, { dst := some 26, op := Op.box 115 (Operand.tmp 25), type := 111, pos := "copying.go:78", after := #[{ on := 5, ground := Ground.data }], guard := none }, { dst := some 8, op := Op.assign (Operand.tmp 26), type := 111, pos := "copying.go:78", after := #[{ on := 6, ground := Ground.data }, { on := 2, ground := Ground.chain }, { on := 0, ground := Ground.phase }, { on := 1, ground := Ground.phase }, { on := 2, ground := Ground.phase }, { on := 3, ground := Ground.phase }, { on := 4, ground := Ground.phase }, { on := 5, ground := Ground.phase }, { on := 6, ground := Ground.phase }], guard := none }]
theorem tab1 : rtab .any O1 = T1 := by kernel_rfl
theorem bits1 : waitsOk T1.2 B1 = true := by kernel_rfl
theorem info3 : (Try.prog.info? 3).map (·.bytes) = some 8 := by kernel_rfl
theorem mk1 (w : World) : (Instr.makeChan 113 (.int .i64 1)).run Try.prog w = .ok (.chan (some w.heap.size)) (w.alloc (.chan 1 #[] false 0 0 false)) := by
  obtain ⟨i, hi, hb⟩ := Option.map_eq_some_iff.1 info3
  simpa using Go.Conc.run_makeChan (P := Try.prog) (w := w) Try.underlying113 hi .i64 1 (by omega) (by rw [hb]; omega)
/-- What the region leaves of the arena, the map, the channel. -/
def FA (Y W : World) (n2 : Nat) (g2 gw2 : Nat) : Prop := Ar W g2 gw2 [] n2 ∧ Y.heap.size ≤ g2 ∧ Y.heap.size ≤ gw2
def FM (Y W : World) (m2 : Nat) : Prop := W.ownsMap (H := Unit) Try.prog 3 (plainElem Try.prog 3) m2 0 (.map []) ∧ Y.heap.size ≤ m2
def FC (Y W : World) (ch : Nat) : Prop := W.heap[ch]? = some (.chan 1 #[] false 0 0 false) ∧ Y.heap.size ≤ ch
theorem FA.below {Y W W1 : World} {n2 g2 gw2 : Nat} (h : FA Y W n2 g2 gw2) (hb : Below W.heap.size W W1) : FA Y W1 n2 g2 gw2 := ⟨h.1.below hb, h.2⟩
theorem FM.below {Y W W1 : World} {m2 : Nat} (h : FM Y W m2) (hb : Below W.heap.size W W1) : FM Y W1 m2 := ⟨owns_mods h.1 (Mods.of_below (fun _ => False) hb) id, h.2⟩
theorem FC.below {Y W W1 : World} {ch : Nat} (h : FC Y W ch) (hb : Below W.heap.size W W1) : FC Y W1 ch := ⟨(hb.block _ (blk_lt h.1)).trans h.1, h.2⟩
set_option maxHeartbeats 16000000 in
set_option maxRecDepth 100000 in
theorem reg1 {u0 u1 u2 u3 u4 u5 u6 u7 u8 u9 u10 u11 u12 u13 u14 u15 u16 u17 u18 u19 u20 u21 u22 u23 u24 u25 u26 u27 u28 u29 u30 u31 u32 u33 u34 u35 u36 u37 u38 u39 u40 u41 u42 u43 u44 u45 u46 u47 u48 u49 u50 u51 u52 u53 u54 u55 u56 u57 u58 u59 u60 u61 u62 u63 u64 u65 u66 u67 u68 u69 u70 u71 u72 u73 u74 u75 u76 u77 u78 u79 u80 u81 u82 u83 u84 u85 u86 u87 u88 u89 u90 u91 u92 u93 u94 u95 u96 u97 u98 u99 u100 u101 u102 u103 u104 u105 u106 u107 u108 u109 u110 : Value} {Q : Exit → Act → World → Prop} (hP : ∀ c (a : Act) d v w, Q (.panic c) (a.put d v) w → Q (.panic c) a w) {Y : World} {h : Nat} {sz : Int}
    (hQ : ∀ g2 gw2 m2 ch gc W1, Below Y.heap.size Y W1 → FA Y W1 (sizeA sz) g2 gw2 → FM Y W1 m2 → FC Y W1 ch → W1.heap[gc]? = some (.cells #[.pointer (some ⟨h, 0, none⟩), .pointer (some ⟨g2, 0, none⟩), .map (some m2), .chan (some ch)] 115 (0, 0)) → Y.heap.size ≤ gc → Q .normal ⟨#[.pointer (some ⟨h, 0, none⟩), u1, .int .i64 sz, u3, u4, u5, u6, u7, .pointer (some ⟨gc, 0, none⟩), u9, u10, u11, u12, u13, u14, u15, u16, u17, u18, u19, .pointer (some ⟨h, 0, none⟩), .int .i64 sz, .pointer (some ⟨g2, 0, none⟩), .map (some m2), .chan (some ch), .agg #[.pointer (some ⟨h, 0, none⟩), .pointer (some ⟨g2, 0, none⟩), .map (some m2), .chan (some ch)], .pointer (some ⟨gc, 0, none⟩), u27, u28, u29, u30, u31, u32, u33, u34, u35, u36, u37, u38, u39, u40, u41, u42, u43, u44, u45, u46, u47, u48, u49, u50, u51, u52, u53, u54, u55, u56, u57, u58, u59, u60, u61, u62, u63, u64, u65, u66, u67, u68, u69, u70, u71, u72, u73, u74, u75, u76, u77, u78, u79, u80, u81, u82, u83, u84, u85, u86, u87, u88, u89, u90, u91, u92, u93, u94, u95, u96, u97, u98, u99, u100, u101, u102, u103, u104, u105, u106, u107, u108, u109, u110], []⟩ W1) :
    (Code.region 1 O1 true).wp Try.prog Q ⟨#[.pointer (some ⟨h, 0, none⟩), u1, .int .i64 sz, u3, u4, u5, u6, u7, u8, u9, u10, u11, u12, u13, u14, u15, u16, u17, u18, u19, u20, u21, u22, u23, u24, u25, u26, u27, u28, u29, u30, u31, u32, u33, u34, u35, u36, u37, u38, u39, u40, u41, u42, u43, u44, u45, u46, u47, u48, u49, u50, u51, u52, u53, u54, u55, u56, u57, u58, u59, u60, u61, u62, u63, u64, u65, u66, u67, u68, u69, u70, u71, u72, u73, u74, u75, u76, u77, u78, u79, u80, u81, u82, u83, u84, u85, u86, u87, u88, u89, u90, u91, u92, u93, u94, u95, u96, u97, u98, u99, u100, u101, u102, u103, u104, u105, u106, u107, u108, u109, u110], []⟩ Y := by
  unfold O1
  have hu := Try.underlying115
  have HQ := Aside0.mk hQ
  have HP := Aside0.mk hP
  have HMM := Aside0.mk (@run_makeMap Try.prog)
  have HMC := Aside0.mk mk1
  clear hQ hP
  have HBB := Aside0.mk (below_drew (Below.refl Y.heap.size Y))
  refine start_ (n := 8) (S := fun w' => Below Y.heap.size Y w') (ds := []) #[false, false, false, false, false, false, false, false] (by kernel_rfl) rfl rfl HBB.out (fun hHeld => ?_); refine with_tabW tab1 bits1 (fun HT_ HW_ => ?_)
  generalize Y.drew = wd at HBB hHeld ⊢
  refine pure_ (i := 0) (N := (some 20)) (v := ?_) (a' := ?_) #[true, false, false, false, false, false, false, false] rfl rfl (any_of HT_.out (by kernel_rfl)) (fun _ _ _ h => HP.out _ _ _ _ _ h) (Or.inl ⟨by rfl, ?_⟩) ?_ ?_
  rotate_left; (intro w'; go_simp; with_reducible rfl)
  rotate_left; (simp only [Act.put, List.setIfInBounds_toArray, List.set_cons_zero, List.set_cons_succ, i64_w, i32_w]; rfl)
  refine pure_ (i := 1) (N := (some 21)) (v := ?_) (a' := ?_) #[true, true, false, false, false, false, false, false] rfl rfl (any_of HT_.out (by kernel_rfl)) (fun _ _ _ h => HP.out _ _ _ _ _ h) (Or.inl ⟨by rfl, ?_⟩) ?_ ?_
  rotate_left; (intro w'; go_simp; with_reducible rfl)
  rotate_left; (simp only [Act.put, List.setIfInBounds_toArray, List.set_cons_zero, List.set_cons_succ, i64_w, i32_w]; rfl)
  refine join_ (σ := Nat × Nat × Nat × Nat) 3 #[true, true, true, true, true, false, false, false] (fun s => [(22, .pointer (some ⟨s.1, 0, none⟩)), (23, .map (some s.2.2.1)), (24, .chan (some s.2.2.2))]) (fun s w' => Below Y.heap.size Y w' ∧ FA Y w' (sizeA sz) s.1 s.2.1 ∧ FM Y w' s.2.2.1 ∧ FC Y w' s.2.2.2) ?_ ?_
  rotate_left
  · intro hJ234
    refine join_ (σ := Nat × Nat × Nat × Nat) 4 #[true, true, true, true, false, false, false, false] (fun s => [(22, .pointer (some ⟨s.1, 0, none⟩)), (23, .map (some s.2.2.1))]) (fun s w' => Below Y.heap.size Y w' ∧ FA Y w' (sizeA sz) s.1 s.2.1 ∧ FM Y w' s.2.2.1 ∧ True) ?_ ?_
    rotate_left
    · intro hJ23
      refine join_ (σ := Nat × Nat × Nat × Nat) 4 #[true, true, true, false, true, false, false, false] (fun s => [(22, .pointer (some ⟨s.1, 0, none⟩)), (24, .chan (some s.2.2.2))]) (fun s w' => Below Y.heap.size Y w' ∧ FA Y w' (sizeA sz) s.1 s.2.1 ∧ True ∧ FC Y w' s.2.2.2) ?_ ?_
      rotate_left
      · intro hJ24
        refine join_ (σ := Nat × Nat × Nat × Nat) 4 #[true, true, false, true, true, false, false, false] (fun s => [(23, .map (some s.2.2.1)), (24, .chan (some s.2.2.2))]) (fun s w' => Below Y.heap.size Y w' ∧ True ∧ FM Y w' s.2.2.1 ∧ FC Y w' s.2.2.2) ?_ ?_
        rotate_left
        · intro hJ34
          refine join_ (σ := Nat × Nat × Nat × Nat) 5 #[true, true, true, false, false, false, false, false] (fun s => [(22, .pointer (some ⟨s.1, 0, none⟩))]) (fun s w' => Below Y.heap.size Y w' ∧ FA Y w' (sizeA sz) s.1 s.2.1 ∧ True ∧ True) ?_ ?_
          rotate_left
          · intro hJ2
            refine join_ (σ := Nat × Nat × Nat × Nat) 5 #[true, true, false, true, false, false, false, false] (fun s => [(23, .map (some s.2.2.1))]) (fun s w' => Below Y.heap.size Y w' ∧ True ∧ FM Y w' s.2.2.1 ∧ True) ?_ ?_
            rotate_left
            · intro hJ3
              refine join_ (σ := Nat × Nat × Nat × Nat) 5 #[true, true, false, false, true, false, false, false] (fun s => [(24, .chan (some s.2.2.2))]) (fun s w' => Below Y.heap.size Y w' ∧ True ∧ True ∧ FC Y w' s.2.2.2) ?_ ?_
              rotate_left
              · intro hJ4
                refine three_ (i := 2) (j := 3) (k := 4) (Ni := (some 22)) (Nj := (some 23)) (Nk := (some 24)) #[true, true, true, false, false, false, false, false] #[true, true, false, true, false, false, false, false] #[true, true, false, false, true, false, false, false] rfl rfl rfl rfl rfl rfl (three_of HT_.out (by kernel_rfl)) (by decide) (by decide) (by decide) (fun K hK => ?_) (fun K hK => ?_) (fun K hK => ?_)
                · skip
                  refine goes_ Try.func62 (by kernel_rfl) rfl #[.int .i64 sz] (by rfl) rfl rfl (by (try simp only [List.map_toArray, List.map_cons, List.map_nil]); first | done | rfl) ?_
                  refine (Go.Proofs.YtlifdpfhepamfaaAr.new_calls sz wd).mono ?_
                  rintro e wn ⟨rfl, ha, hb⟩
                  refine ⟨_, rfl, ?_⟩
                  have HF2 := Aside0.mk (show FA Y wn (sizeA sz) (wd.heap.size + 1) wd.heap.size from ⟨ha, Nat.le_succ_of_le HBB.out.size, HBB.out.size⟩)
                  clear ha
                  have n0_ := Aside0.mk (below_step HBB.out hb)
                  clear HBB hHeld hb
                  have HBB := n0_
                  clear n0_
                  refine hK.out _ _ HBB.out (fun hHeld => ?_)
                  clear hK K
                  refine norm_ (a' := ?_) ?_ ?_
                  rotate_left
                  · show Act.put _ (some 22) _ = _
                    simp only [Act.put, List.setIfInBounds_toArray, List.set_cons_zero, List.set_cons_succ, i64_w, i32_w]
                    rfl
                  have hj := hJ2 ((wd.heap.size + 1), wd.heap.size, 0, 0) _ ⟨HBB.out, HF2.out, trivial, trivial⟩
                  refine norm_ ?_ hj
                  rfl
                · skip
                  refine event_step (v := (.map (some wd.heap.size))) (w1 := wd.alloc (.map #[] 0)) (by rfl) (by have hmm := HMM.out; go_simp) ?_
                  obtain ⟨wn, hwn⟩ : ∃ wn, wd.alloc (.map #[] 0) = wn := ⟨_, rfl⟩
                  have hb : Below wd.heap.size wd wn := by rw [← hwn]; exact below_alloc (Below.refl _ _) _
                  rw [hwn]
                  have HF3 := Aside0.mk (show FM Y wn wd.heap.size from ⟨by rw [← hwn]; exact World.ownsMap_made wd Try.prog _ _, HBB.out.size⟩)
                  have n0_ := Aside0.mk (below_step HBB.out hb)
                  clear HBB hHeld hb hwn
                  have HBB := n0_
                  clear n0_
                  refine hK.out _ _ HBB.out (fun hHeld => ?_)
                  clear hK K
                  refine norm_ (a' := ?_) ?_ ?_
                  rotate_left
                  · show Act.put _ (some 23) _ = _
                    simp only [Act.put, List.setIfInBounds_toArray, List.set_cons_zero, List.set_cons_succ, i64_w, i32_w]
                    rfl
                  have hj := hJ3 (0, 0, wd.heap.size, 0) _ ⟨HBB.out, trivial, HF3.out, trivial⟩
                  refine norm_ ?_ hj
                  rfl
                · skip
                  refine event_step (v := (.chan (some wd.heap.size))) (w1 := wd.alloc (.chan 1 #[] false 0 0 false)) (by rfl) (by have hmc := HMC.out; go_simp) ?_
                  obtain ⟨wn, hwn⟩ : ∃ wn, wd.alloc (.chan 1 #[] false 0 0 false) = wn := ⟨_, rfl⟩
                  have hb : Below wd.heap.size wd wn := by rw [← hwn]; exact below_alloc (Below.refl _ _) _
                  rw [hwn]
                  have HF4 := Aside0.mk (show FC Y wn wd.heap.size from ⟨by rw [← hwn]; exact heap_alloc_new _ _, HBB.out.size⟩)
                  have n0_ := Aside0.mk (below_step HBB.out hb)
                  clear HBB hHeld hb hwn
                  have HBB := n0_
                  clear n0_
                  refine hK.out _ _ HBB.out (fun hHeld => ?_)
                  clear hK K
                  refine norm_ (a' := ?_) ?_ ?_
                  rotate_left
                  · show Act.put _ (some 24) _ = _
                    simp only [Act.put, List.setIfInBounds_toArray, List.set_cons_zero, List.set_cons_succ, i64_w, i32_w]
                    rfl
                  have hj := hJ4 (0, 0, 0, wd.heap.size) _ ⟨HBB.out, trivial, trivial, HF4.out⟩
                  refine norm_ ?_ hj
                  rfl
              · skip
                rintro ⟨g2, gw2, m2, ch⟩ wj ⟨hbj, h2j, h3j, h4j⟩
                refine norm_ (a' := ?_) ?_ ?_
                rotate_left
                · show putAll _ _ = _
                  simp only [putAll, Act.put, List.setIfInBounds_toArray, List.set_cons_zero, List.set_cons_succ]
                  rfl
                have HBB := Aside0.mk hbj
                have hHeld := hbj
                have HF4 := Aside0.mk h4j
                clear hbj h2j h3j h4j
                refine two_ (i := 2) (j := 3) (Ni := (some 22)) (Nj := (some 23)) #[true, true, true, false, true, false, false, false] #[true, true, false, true, true, false, false, false] rfl rfl rfl rfl (two_of HT_.out (by kernel_rfl)) (by decide) (by decide) (fun K hK => ?_) (fun K hK => ?_)
                · skip
                  refine goes_ Try.func62 (by kernel_rfl) rfl #[.int .i64 sz] (by rfl) rfl rfl (by (try simp only [List.map_toArray, List.map_cons, List.map_nil]); first | done | rfl) ?_
                  refine (Go.Proofs.YtlifdpfhepamfaaAr.new_calls sz wj).mono ?_
                  rintro e wn ⟨rfl, ha, hb⟩
                  refine ⟨_, rfl, ?_⟩
                  have HF2 := Aside0.mk (show FA Y wn (sizeA sz) (wj.heap.size + 1) wj.heap.size from ⟨ha, Nat.le_succ_of_le HBB.out.size, HBB.out.size⟩)
                  clear ha
                  have HF4 := Aside0.mk (HF4.out.below hb)
                  have n0_ := Aside0.mk (below_step HBB.out hb)
                  clear HBB hHeld hb
                  have HBB := n0_
                  clear n0_
                  refine hK.out _ _ HBB.out (fun hHeld => ?_)
                  clear hK K
                  refine norm_ (a' := ?_) ?_ ?_
                  rotate_left
                  · show Act.put _ (some 22) _ = _
                    simp only [Act.put, List.setIfInBounds_toArray, List.set_cons_zero, List.set_cons_succ, i64_w, i32_w]
                    rfl
                  have hj := hJ24 ((wj.heap.size + 1), wj.heap.size, 0, ch) _ ⟨HBB.out, HF2.out, trivial, HF4.out⟩
                  refine norm_ ?_ hj
                  rfl
                · skip
                  refine event_step (v := (.map (some wj.heap.size))) (w1 := wj.alloc (.map #[] 0)) (by rfl) (by have hmm := HMM.out; go_simp) ?_
                  obtain ⟨wn, hwn⟩ : ∃ wn, wj.alloc (.map #[] 0) = wn := ⟨_, rfl⟩
                  have hb : Below wj.heap.size wj wn := by rw [← hwn]; exact below_alloc (Below.refl _ _) _
                  rw [hwn]
                  have HF3 := Aside0.mk (show FM Y wn wj.heap.size from ⟨by rw [← hwn]; exact World.ownsMap_made wj Try.prog _ _, HBB.out.size⟩)
                  have HF4 := Aside0.mk (HF4.out.below hb)
                  have n0_ := Aside0.mk (below_step HBB.out hb)
                  clear HBB hHeld hb hwn
                  have HBB := n0_
                  clear n0_
                  refine hK.out _ _ HBB.out (fun hHeld => ?_)
                  clear hK K
                  refine norm_ (a' := ?_) ?_ ?_
                  rotate_left
                  · show Act.put _ (some 23) _ = _
                    simp only [Act.put, List.setIfInBounds_toArray, List.set_cons_zero, List.set_cons_succ, i64_w, i32_w]
                    rfl
                  have hj := hJ34 (0, 0, wj.heap.size, ch) _ ⟨HBB.out, trivial, HF3.out, HF4.out⟩
                  refine norm_ ?_ hj
                  rfl
            · skip
              rintro ⟨g2, gw2, m2, ch⟩ wj ⟨hbj, h2j, h3j, h4j⟩
              refine norm_ (a' := ?_) ?_ ?_
              rotate_left
              · show putAll _ _ = _
                simp only [putAll, Act.put, List.setIfInBounds_toArray, List.set_cons_zero, List.set_cons_succ]
                rfl
              have HBB := Aside0.mk hbj
              have hHeld := hbj
              have HF3 := Aside0.mk h3j
              clear hbj h2j h3j h4j
              refine two_ (i := 2) (j := 4) (Ni := (some 22)) (Nj := (some 24)) #[true, true, true, true, false, false, false, false] #[true, true, false, true, true, false, false, false] rfl rfl rfl rfl (two_of HT_.out (by kernel_rfl)) (by decide) (by decide) (fun K hK => ?_) (fun K hK => ?_)
              · skip
                refine goes_ Try.func62 (by kernel_rfl) rfl #[.int .i64 sz] (by rfl) rfl rfl (by (try simp only [List.map_toArray, List.map_cons, List.map_nil]); first | done | rfl) ?_
                refine (Go.Proofs.YtlifdpfhepamfaaAr.new_calls sz wj).mono ?_
                rintro e wn ⟨rfl, ha, hb⟩
                refine ⟨_, rfl, ?_⟩
                have HF2 := Aside0.mk (show FA Y wn (sizeA sz) (wj.heap.size + 1) wj.heap.size from ⟨ha, Nat.le_succ_of_le HBB.out.size, HBB.out.size⟩)
                clear ha
                have HF3 := Aside0.mk (HF3.out.below hb)
                have n0_ := Aside0.mk (below_step HBB.out hb)
                clear HBB hHeld hb
                have HBB := n0_
                clear n0_
                refine hK.out _ _ HBB.out (fun hHeld => ?_)
                clear hK K
                refine norm_ (a' := ?_) ?_ ?_
                rotate_left
                · show Act.put _ (some 22) _ = _
                  simp only [Act.put, List.setIfInBounds_toArray, List.set_cons_zero, List.set_cons_succ, i64_w, i32_w]
                  rfl
                have hj := hJ23 ((wj.heap.size + 1), wj.heap.size, m2, 0) _ ⟨HBB.out, HF2.out, HF3.out, trivial⟩
                refine norm_ ?_ hj
                rfl
              · skip
                refine event_step (v := (.chan (some wj.heap.size))) (w1 := wj.alloc (.chan 1 #[] false 0 0 false)) (by rfl) (by have hmc := HMC.out; go_simp) ?_
                obtain ⟨wn, hwn⟩ : ∃ wn, wj.alloc (.chan 1 #[] false 0 0 false) = wn := ⟨_, rfl⟩
                have hb : Below wj.heap.size wj wn := by rw [← hwn]; exact below_alloc (Below.refl _ _) _
                rw [hwn]
                have HF4 := Aside0.mk (show FC Y wn wj.heap.size from ⟨by rw [← hwn]; exact heap_alloc_new _ _, HBB.out.size⟩)
                have HF3 := Aside0.mk (HF3.out.below hb)
                have n0_ := Aside0.mk (below_step HBB.out hb)
                clear HBB hHeld hb hwn
                have HBB := n0_
                clear n0_
                refine hK.out _ _ HBB.out (fun hHeld => ?_)
                clear hK K
                refine norm_ (a' := ?_) ?_ ?_
                rotate_left
                · show Act.put _ (some 24) _ = _
                  simp only [Act.put, List.setIfInBounds_toArray, List.set_cons_zero, List.set_cons_succ, i64_w, i32_w]
                  rfl
                have hj := hJ34 (0, 0, m2, wj.heap.size) _ ⟨HBB.out, trivial, HF3.out, HF4.out⟩
                refine norm_ ?_ hj
                rfl
          · skip
            rintro ⟨g2, gw2, m2, ch⟩ wj ⟨hbj, h2j, h3j, h4j⟩
            refine norm_ (a' := ?_) ?_ ?_
            rotate_left
            · show putAll _ _ = _
              simp only [putAll, Act.put, List.setIfInBounds_toArray, List.set_cons_zero, List.set_cons_succ]
              rfl
            have HBB := Aside0.mk hbj
            have hHeld := hbj
            have HF2 := Aside0.mk h2j
            clear hbj h2j h3j h4j
            refine two_ (i := 3) (j := 4) (Ni := (some 23)) (Nj := (some 24)) #[true, true, true, true, false, false, false, false] #[true, true, true, false, true, false, false, false] rfl rfl rfl rfl (two_of HT_.out (by kernel_rfl)) (by decide) (by decide) (fun K hK => ?_) (fun K hK => ?_)
            · skip
              refine event_step (v := (.map (some wj.heap.size))) (w1 := wj.alloc (.map #[] 0)) (by rfl) (by have hmm := HMM.out; go_simp) ?_
              obtain ⟨wn, hwn⟩ : ∃ wn, wj.alloc (.map #[] 0) = wn := ⟨_, rfl⟩
              have hb : Below wj.heap.size wj wn := by rw [← hwn]; exact below_alloc (Below.refl _ _) _
              rw [hwn]
              have HF3 := Aside0.mk (show FM Y wn wj.heap.size from ⟨by rw [← hwn]; exact World.ownsMap_made wj Try.prog _ _, HBB.out.size⟩)
              have HF2 := Aside0.mk (HF2.out.below hb)
              have n0_ := Aside0.mk (below_step HBB.out hb)
              clear HBB hHeld hb hwn
              have HBB := n0_
              clear n0_
              refine hK.out _ _ HBB.out (fun hHeld => ?_)
              clear hK K
              refine norm_ (a' := ?_) ?_ ?_
              rotate_left
              · show Act.put _ (some 23) _ = _
                simp only [Act.put, List.setIfInBounds_toArray, List.set_cons_zero, List.set_cons_succ, i64_w, i32_w]
                rfl
              have hj := hJ23 (g2, gw2, wj.heap.size, 0) _ ⟨HBB.out, HF2.out, HF3.out, trivial⟩
              refine norm_ ?_ hj
              rfl
            · skip
              refine event_step (v := (.chan (some wj.heap.size))) (w1 := wj.alloc (.chan 1 #[] false 0 0 false)) (by rfl) (by have hmc := HMC.out; go_simp) ?_
              obtain ⟨wn, hwn⟩ : ∃ wn, wj.alloc (.chan 1 #[] false 0 0 false) = wn := ⟨_, rfl⟩
              have hb : Below wj.heap.size wj wn := by rw [← hwn]; exact below_alloc (Below.refl _ _) _
              rw [hwn]
              have HF4 := Aside0.mk (show FC Y wn wj.heap.size from ⟨by rw [← hwn]; exact heap_alloc_new _ _, HBB.out.size⟩)
              have HF2 := Aside0.mk (HF2.out.below hb)
              have n0_ := Aside0.mk (below_step HBB.out hb)
              clear HBB hHeld hb hwn
              have HBB := n0_
              clear n0_
              refine hK.out _ _ HBB.out (fun hHeld => ?_)
              clear hK K
              refine norm_ (a' := ?_) ?_ ?_
              rotate_left
              · show Act.put _ (some 24) _ = _
                simp only [Act.put, List.setIfInBounds_toArray, List.set_cons_zero, List.set_cons_succ, i64_w, i32_w]
                rfl
              have hj := hJ24 (g2, gw2, 0, wj.heap.size) _ ⟨HBB.out, HF2.out, trivial, HF4.out⟩
              refine norm_ ?_ hj
              rfl
        · skip
          rintro ⟨g2, gw2, m2, ch⟩ wj ⟨hbj, h2j, h3j, h4j⟩
          refine norm_ (a' := ?_) ?_ ?_
          rotate_left
          · show putAll _ _ = _
            simp only [putAll, Act.put, List.setIfInBounds_toArray, List.set_cons_zero, List.set_cons_succ]
            rfl
          have HBB := Aside0.mk hbj
          have hHeld := hbj
          have HF3 := Aside0.mk h3j
          have HF4 := Aside0.mk h4j
          clear hbj h2j h3j h4j
          refine one_ (i := 2) (N := (some 22)) #[true, true, true, true, true, false, false, false] rfl rfl (one_of HT_.out (by kernel_rfl)) (by decide) (fun K hK => ?_)
          refine goes_ Try.func62 (by kernel_rfl) rfl #[.int .i64 sz] (by rfl) rfl rfl (by (try simp only [List.map_toArray, List.map_cons, List.map_nil]); first | done | rfl) ?_
          refine (Go.Proofs.YtlifdpfhepamfaaAr.new_calls sz wj).mono ?_
          rintro e wn ⟨rfl, ha, hb⟩
          refine ⟨_, rfl, ?_⟩
          have HF2 := Aside0.mk (show FA Y wn (sizeA sz) (wj.heap.size + 1) wj.heap.size from ⟨ha, Nat.le_succ_of_le HBB.out.size, HBB.out.size⟩)
          clear ha
          have HF3 := Aside0.mk (HF3.out.below hb)
          have HF4 := Aside0.mk (HF4.out.below hb)
          have n0_ := Aside0.mk (below_step HBB.out hb)
          clear HBB hHeld hb
          have HBB := n0_
          clear n0_
          refine hK.out _ _ HBB.out (fun hHeld => ?_)
          clear hK K
          refine norm_ (a' := ?_) ?_ ?_
          rotate_left
          · show Act.put _ (some 22) _ = _
            simp only [Act.put, List.setIfInBounds_toArray, List.set_cons_zero, List.set_cons_succ, i64_w, i32_w]
            rfl
          have hj := hJ234 ((wj.heap.size + 1), wj.heap.size, m2, ch) _ ⟨HBB.out, HF2.out, HF3.out, HF4.out⟩
          refine norm_ ?_ hj
          rfl
      · skip
        rintro ⟨g2, gw2, m2, ch⟩ wj ⟨hbj, h2j, h3j, h4j⟩
        refine norm_ (a' := ?_) ?_ ?_
        rotate_left
        · show putAll _ _ = _
          simp only [putAll, Act.put, List.setIfInBounds_toArray, List.set_cons_zero, List.set_cons_succ]
          rfl
        have HBB := Aside0.mk hbj
        have hHeld := hbj
        have HF2 := Aside0.mk h2j
        have HF4 := Aside0.mk h4j
        clear hbj h2j h3j h4j
        refine one_ (i := 3) (N := (some 23)) #[true, true, true, true, true, false, false, false] rfl rfl (one_of HT_.out (by kernel_rfl)) (by decide) (fun K hK => ?_)
        refine event_step (v := (.map (some wj.heap.size))) (w1 := wj.alloc (.map #[] 0)) (by rfl) (by have hmm := HMM.out; go_simp) ?_
        obtain ⟨wn, hwn⟩ : ∃ wn, wj.alloc (.map #[] 0) = wn := ⟨_, rfl⟩
        have hb : Below wj.heap.size wj wn := by rw [← hwn]; exact below_alloc (Below.refl _ _) _
        rw [hwn]
        have HF3 := Aside0.mk (show FM Y wn wj.heap.size from ⟨by rw [← hwn]; exact World.ownsMap_made wj Try.prog _ _, HBB.out.size⟩)
        have HF2 := Aside0.mk (HF2.out.below hb)
        have HF4 := Aside0.mk (HF4.out.below hb)
        have n0_ := Aside0.mk (below_step HBB.out hb)
        clear HBB hHeld hb hwn
        have HBB := n0_
        clear n0_
        refine hK.out _ _ HBB.out (fun hHeld => ?_)
        clear hK K
        refine norm_ (a' := ?_) ?_ ?_
        rotate_left
        · show Act.put _ (some 23) _ = _
          simp only [Act.put, List.setIfInBounds_toArray, List.set_cons_zero, List.set_cons_succ, i64_w, i32_w]
          rfl
        have hj := hJ234 (g2, gw2, wj.heap.size, ch) _ ⟨HBB.out, HF2.out, HF3.out, HF4.out⟩
        refine norm_ ?_ hj
        rfl
    · skip
      rintro ⟨g2, gw2, m2, ch⟩ wj ⟨hbj, h2j, h3j, h4j⟩
      refine norm_ (a' := ?_) ?_ ?_
      rotate_left
      · show putAll _ _ = _
        simp only [putAll, Act.put, List.setIfInBounds_toArray, List.set_cons_zero, List.set_cons_succ]
        rfl
      have HBB := Aside0.mk hbj
      have hHeld := hbj
      have HF2 := Aside0.mk h2j
      have HF3 := Aside0.mk h3j
      clear hbj h2j h3j h4j
      refine one_ (i := 4) (N := (some 24)) #[true, true, true, true, true, false, false, false] rfl rfl (one_of HT_.out (by kernel_rfl)) (by decide) (fun K hK => ?_)
      refine event_step (v := (.chan (some wj.heap.size))) (w1 := wj.alloc (.chan 1 #[] false 0 0 false)) (by rfl) (by have hmc := HMC.out; go_simp) ?_
      obtain ⟨wn, hwn⟩ : ∃ wn, wj.alloc (.chan 1 #[] false 0 0 false) = wn := ⟨_, rfl⟩
      have hb : Below wj.heap.size wj wn := by rw [← hwn]; exact below_alloc (Below.refl _ _) _
      rw [hwn]
      have HF4 := Aside0.mk (show FC Y wn wj.heap.size from ⟨by rw [← hwn]; exact heap_alloc_new _ _, HBB.out.size⟩)
      have HF2 := Aside0.mk (HF2.out.below hb)
      have HF3 := Aside0.mk (HF3.out.below hb)
      have n0_ := Aside0.mk (below_step HBB.out hb)
      clear HBB hHeld hb hwn
      have HBB := n0_
      clear n0_
      refine hK.out _ _ HBB.out (fun hHeld => ?_)
      clear hK K
      refine norm_ (a' := ?_) ?_ ?_
      rotate_left
      · show Act.put _ (some 24) _ = _
        simp only [Act.put, List.setIfInBounds_toArray, List.set_cons_zero, List.set_cons_succ, i64_w, i32_w]
        rfl
      have hj := hJ234 (g2, gw2, m2, wj.heap.size) _ ⟨HBB.out, HF2.out, HF3.out, HF4.out⟩
      refine norm_ ?_ hj
      rfl
  · skip
    rintro ⟨g2, gw2, m2, ch⟩ wj ⟨hbj, h2j, h3j, h4j⟩
    refine norm_ (a' := ?_) ?_ ?_
    rotate_left
    · show putAll _ _ = _
      simp only [putAll, Act.put, List.setIfInBounds_toArray, List.set_cons_zero, List.set_cons_succ]
      rfl
    have HBB := Aside0.mk hbj
    have hHeld := hbj
    have HF2 := Aside0.mk h2j
    have HF3 := Aside0.mk h3j
    have HF4 := Aside0.mk h4j
    clear hbj h2j h3j h4j
    refine pure_ (i := 5) (N := (some 25)) (v := ?_) (a' := ?_) #[true, true, true, true, true, true, false, false] rfl rfl (any_of HT_.out (by kernel_rfl)) (fun _ _ _ h => HP.out _ _ _ _ _ h) (Or.inl ⟨by rfl, ?_⟩) ?_ ?_
    rotate_left; (intro w'; go_simp; with_reducible rfl)
    rotate_left; (simp only [Act.put, List.setIfInBounds_toArray, List.set_cons_zero, List.set_cons_succ, i64_w, i32_w]; rfl)
    refine one_ (i := 6) (N := (some 26)) #[true, true, true, true, true, true, true, false] rfl rfl (one_of HT_.out (by kernel_rfl)) (by decide) (fun K hK => ?_)
    refine box_step ?hg (N := 26) ?hd (cs := #[.pointer (some ⟨h, 0, none⟩), .pointer (some ⟨g2, 0, none⟩), .map (some m2), .chan (some ch)]) (t := 115) ?hr ?_; (case hd => rfl); (case hg => rfl); (case hr => first | (go_simp; done) | (go_simp; rfl))
    intro gc hg wo hbox hb
    have HF2 := Aside0.mk (HF2.out.below hb)
    have HF3 := Aside0.mk (HF3.out.below hb)
    have HF4 := Aside0.mk (HF4.out.below hb)
    have n0_ := Aside0.mk (below_step HBB.out hb)
    have HBOX := Aside0.mk hbox
    have HGE := Aside0.mk (show Y.heap.size ≤ gc by rw [hg]; exact HBB.out.size)
    clear HBB hHeld hb hbox hg
    have HBB := n0_
    clear n0_
    refine hK.out _ _ HBB.out (fun hHeld => ?_)
    clear hK K
    refine norm_ (a' := ?_) ?_ ?_
    rotate_left
    · show Act.put _ (some 26) _ = _
      simp only [Act.put, List.setIfInBounds_toArray, List.set_cons_zero, List.set_cons_succ, i64_w, i32_w]
      rfl
    refine pure_ (i := 7) (N := (some 8)) (v := ?_) (a' := ?_) #[true, true, true, true, true, true, true, true] rfl rfl (any_of HT_.out (by kernel_rfl)) (fun _ _ _ h => HP.out _ _ _ _ _ h) (Or.inl ⟨by rfl, ?_⟩) ?_ ?_
    rotate_left; (intro w'; go_simp; with_reducible rfl)
    rotate_left; (simp only [Act.put, List.setIfInBounds_toArray, List.set_cons_zero, List.set_cons_succ, i64_w, i32_w]; rfl)
    refine done_ (done_of HT_.out (by kernel_rfl)) ?_
    exact HQ.out g2 gw2 m2 ch gc _ HBB.out HF2.out HF3.out HF4.out HBOX.out HGE.out
end Go.Proofs.YtlifdpfhepamfaaCk
namespace Go.Proofs.YtlifdpfhepamfaaCc
open Go.RowKit Go.Maps Go.Proofs.YtlifdpfhepamfaaW.PrintWords Go.Proofs.YtlifdpfhepamfaaW.PrintLast Go.Proofs.YtlifdpfhepamfaaW.PrintMore Go.Proofs.YtlifdpfhepamfaaMem Go.Proofs.YtlifdpfhepamfaaLeaf Go.Proofs.YtlifdpfhepamfaaBits Go.Proofs.Ytlifdpfhepamfaa.PHe Go.Proofs.YtlifdpfhepamfaaRow Go.Proofs.YtlifdpfhepamfaaAr Go.Proofs.YtlifdpfhepamfaaHp Go.Proofs.YtlifdpfhepamfaaHo Go.Proofs.YtlifdpfhepamfaaWd Go.Proofs.YtlifdpfhepamfaaCp Go.Proofs.YtlifdpfhepamfaaTell Go.Proofs.YtlifdpfhepamfaaCm Go.Proofs.YtlifdpfhepamfaaCk Go.Proofs
set_option linter.unusedVariables false
set_option linter.unusedSimpArgs false
/-- The roots, moved one by one. -/
def rootsF (l : List Int) (n2 : Nat) : List Int → List Int → List Int → List (Int × Nat) → Option (List Int × List Int × List (Int × Nat))
  | [], out, to_, now => some (out, to_, now)
  | x :: xs, out, to_, now => if (moveF l n2 to_ now x).2.1 = true then rootsF l n2 xs (out ++ [(moveF l n2 to_ now x).1]) (moveF l n2 to_ now x).2.2.1 (moveF l n2 to_ now x).2.2.2 else none
/-- An object's words from a place on, so many, moved one by one. -/
def innerF (l : List Int) (n2 : Nat) : Nat → Int → List Int → List (Int × Nat) → Option (List Int × List (Int × Nat))
  | 0, _, to_, now => some (to_, now)
  | k + 1, p, to_, now => if (moveF l n2 to_ now (wordA to_ p)).2.1 = true then innerF l n2 k (p + 1) (setA (moveF l n2 to_ now (wordA to_ p)).2.2.1 p (moveF l n2 to_ now (wordA to_ p)).1) (moveF l n2 to_ now (wordA to_ p)).2.2.2 else none
/-- The objects that were moved, one by one. -/
def scanF (l : List Int) (n2 : Nat) : Nat → Int → List Int → List (Int × Nat) → Option (List Int × List (Int × Nat))
  | 0, _, _, _ => none
  | k + 1, p, to_, now => if (to_.length : Int) ≤ p then some (to_, now) else if (innerI to_ p).2 ≤ 40000 then (innerF l n2 (innerI to_ p).2.toNat (p + (innerI to_ p).1) to_ now).bind fun s => scanF l n2 k (p + extA s.1 p) s.1 s.2 else none
/-- The copying begins. -/
theorem Cs.start {w W1 : World} {h g gw m : Nat} {v : Value} {l : List Int} {n : Nat} {ns : List ByteArray} {B : Nat} {n2 g2 gw2 m2 ch gc : Nat} (H : Hp B w h g gw m v l n ns) (hb : Below w.heap.size w W1) (ha : FA w W1 n2 g2 gw2) (hm : FM w W1 m2) (hc : FC w W1 ch)
    (hg : W1.heap[gc]? = some (.cells #[.pointer (some ⟨h, 0, none⟩), .pointer (some ⟨g2, 0, none⟩), .map (some m2), .chan (some ch)] 115 (0, 0))) (hge : w.heap.size ≤ gc) : Cs w W1 gc h g gw m v l n ns g2 gw2 [] n2 m2 ch [] B (.slice none 0 0) [] := by
  obtain ⟨es, ck, hme, _⟩ := hm.1
  have ne : ∀ {i j : Nat} {x y : Obj}, W1.heap[i]? = some x → W1.heap[j]? = some y → x ≠ y → i ≠ j := by
    intro i j x y h1 h2 hxy e
    subst e
    rw [h1] at h2
    injection h2 with h2
    exact hxy h2
  have hga := ha.1.1
  have hgw := ha.1.2.1
  refine ⟨H.below hb, fun k hk => (H.foot k hk).2, ha.1, hg, ⟨.map [], hm.1, DM.nil⟩, ⟨#[], 0, hc.1, by simp⟩, ⟨hge, ha.2.1, ha.2.2, hm.2, hc.2⟩, ⟨?_, ?_, ?_, ?_, ?_, ?_, ?_, ?_, ?_⟩, by simp [lk], by simp, hb, ⟨rfl, .inl ⟨rfl, rfl⟩⟩, by simp [Value.ownBlock]⟩
  · exact ne hg hga (by intro e; injection e with e1 e2; revert e2; decide)
  · exact ne hg hgw (by intro e; injection e with e1 e2; revert e2; decide)
  · exact ne hg hme (by intro e; cases e)
  · exact ne hg hc.1 (by intro e; cases e)
  · exact ne hga hme (by intro e; cases e)
  · exact ne hga hc.1 (by intro e; cases e)
  · exact ne hgw hme (by intro e; cases e)
  · exact ne hgw hc.1 (by intro e; cases e)
  · exact ne hme hc.1 (by intro e; cases e)
theorem moveF_bd {w W : World} {gc h g gw m : Nat} {v : Value} {l : List Int} {n : Nat} {ns : List ByteArray} {g2 gw2 : Nat} {to_ : List Int} {n2 m2 ch : Nat} {now : List (Int × Nat)} {B : Nat} {v9 : Value} {out : List Int} (H : Cs w W gc h g gw m v l n ns g2 gw2 to_ n2 m2 ch now B v9 out) {x : Int} (h0 : 0 ≤ x) (h1 : x < 18446744073709551616) :
    0 ≤ (moveF l n2 to_ now x).1 ∧ (moveF l n2 to_ now x).1 < 18446744073709551616 := by
  have a1 := H.ar.2.2.2.1
  have a2 := H.ar.2.2.1
  have hp : ∀ t : Nat, t ≤ 32768 → 0 ≤ ptrW (x % 4) t ∧ ptrW (x % 4) t < 18446744073709551616 := by intro t ht; unfold ptrW; omega
  unfold moveF
  split
  · exact ⟨h0, h1⟩
  · split
    · exact ⟨by omega, by omega⟩
    · split
      · rename_i t hk
        have := H.tg _ _ hk
        exact hp t (by omega)
      · split
        · exact hp _ (by omega)
        · exact ⟨by omega, by omega⟩
theorem Cs.grow {w W W1 : World} {gc h g gw m : Nat} {v : Value} {l : List Int} {n : Nat} {ns : List ByteArray} {g2 gw2 : Nat} {to_ : List Int} {n2 m2 ch : Nat} {now : List (Int × Nat)} {B : Nat} {v9 v1 : Value} {out : List Int} {x : Int} (H : Cs w W gc h g gw m v l n ns g2 gw2 to_ n2 m2 ch now B v9 out)
    (ho : W1.ownsRow w.heap.size 25 1 v1 (out ++ [x]).length (nums .u64 (out ++ [x]))) (hg : W.grownBy W1 v9.ownBlock) (hat : v1.ownBlock = v9.ownBlock ∨ ∃ b, v1.ownBlock = some b ∧ W.heap.size ≤ b) : Cs w W1 gc h g gw m v l n ns g2 gw2 to_ n2 m2 ch now B v1 (out ++ [x]) := by
  have hm := Mods.of_grown hg
  have hbase := own_base H.ow
  have hfo : ∀ k, k < w.heap.size → ¬ some k = v9.ownBlock := fun k hk e => by have := hbase k e.symm; omega
  obtain ⟨D, h1, h2⟩ := H.mp
  obtain ⟨a1, a2, a3, a4, a5⟩ := H.ge
  have l1 := blk_lt H.cb
  have l2 := blk_lt H.ar.1
  have l3 := blk_lt H.ar.2.1
  have l4 : m2 < W.heap.size := by obtain ⟨es, ck, hh, _⟩ := h1; exact blk_lt hh
  have l5 : ch < W.heap.size := by obtain ⟨bf, s, hh, _⟩ := H.cn; exact blk_lt hh
  refine ⟨H.hp.mods hm (fun k hk => hfo k (H.fo k hk)), H.fo, H.ar.mods hm (fun e => (H.ap _ e.symm).2.1 rfl) (fun e => (H.ap _ e.symm).2.2.1 rfl), hm.blk H.cb (fun e => (H.ap _ e.symm).1 rfl), ⟨D, owns_mods h1 hm (fun e => (H.ap _ e.symm).2.2.2.1 rfl), h2⟩,
    ch_mods H.cn hm (fun e => (H.ap _ e.symm).2.2.2.2 rfl), H.ge, H.ne, H.tg, H.fw, below_mods H.be hm H.be.size (fun k e => hbase k e.symm), ho, fun k hk => ?_⟩
  rcases hat with e | ⟨b, e, hb⟩
  · exact H.ap k (e ▸ hk)
  · rw [e] at hk
    injection hk with hk
    subst hk
    exact ⟨by omega, by omega, by omega, by omega, by omega⟩
theorem extA_bd {l : List Int} (h : W64 l) (k : Int) : 0 ≤ extA l k ∧ extA l k ≤ (l.length : Int) := by
  unfold extA extW
  have := h.getD k.toNat
  (repeat' split) <;> omega
/-- The heap has its new arena. -/
theorem Cs.done {w W : World} {gc h g gw m : Nat} {v : Value} {l : List Int} {n : Nat} {ns : List ByteArray} {g2 gw2 : Nat} {to_ : List Int} {n2 m2 ch : Nat} {now : List (Int × Nat)} {B : Nat} {v9 : Value} {out : List Int} (H : Cs w W gc h g gw m v l n ns g2 gw2 to_ n2 m2 ch now B v9 out) :
    Hp B (W.setCell ⟨h, 0, none⟩ (.pointer (some ⟨g2, 0, none⟩))) h g2 gw2 m v to_ n2 ns ∧ Mods (fun k => k = h) w (W.setCell ⟨h, 0, none⟩ (.pointer (some ⟨g2, 0, none⟩))) ∧ (W.setCell ⟨h, 0, none⟩ (.pointer (some ⟨g2, 0, none⟩))).ownsRow w.heap.size 25 1 v9 out.length (nums .u64 out) := by
  have hm : Mods (fun k => k = h) W (W.setCell ⟨h, 0, none⟩ (.pointer (some ⟨g2, 0, none⟩))) := (Mods.refl (fun k => k = h) W).setCell (p := ⟨h, 0, none⟩) (.inl rfl) _
  have hlt := H.fo h (.inl rfl)
  obtain ⟨D, h1, h2⟩ := H.hp.mp
  obtain ⟨n1, n2_, n3, n4, n5⟩ := H.hp.ne_h
  obtain ⟨m1, m2_, m3, m4⟩ := H.hp.ne_m
  obtain ⟨a1, a2, a3, a4, a5⟩ := H.ge
  have hlo := H.hp.lo
  have hlh : B ≤ w.heap.size := by have := hlo.1; omega
  refine ⟨⟨blk_put H.hp.hb 0 _ rfl, H.ar.mods hm (by omega) (by omega), H.hp.row.mods hm (fun i hi e => by first | exact n3 (by rw [← e]; exact hi.symm) | exact n4 (by rw [← e]; exact hi.symm) | exact n5 (by rw [← e]; exact hi.symm)), ⟨D, owns_mods h1 hm (fun e => m1 e.symm), h2⟩, H.hp.nd, H.hp.sz, H.hp.few, hlo.1, by omega, by omega, hlo.2.2.2.1, Nat.le_trans hlo.2.2.2.2 hm.size⟩,
    (Mods.of_below _ H.be).trans hm, own_setCell H.ow (p := ⟨h, 0, none⟩) (fun e => by have : w.heap.size ≤ h := own_base H.ow h e.symm; omega) _⟩
set_option maxHeartbeats 8000000 in
set_option maxRecDepth 100000 in
theorem collect_calls (w : World) (h g gw m : Nat) (v : Value) (l : List Int) (n : Nat) (ns : List ByteArray) (B : Nat) (A : Option Addr) (c : Nat) (roots : List Int) (sz : Int) (H : Hp B w h g gw m v l n ns) (hr : ReadsInt w .u64 A roots.length roots) (hc : roots.length ≤ c) (hw : W64 roots) (hl : roots.length ≤ 100000)
    (out : List Int) (to1 : List Int) (now1 : List (Int × Nat)) (fuel : Nat) (to2 : List Int) (now2 : List (Int × Nat)) (h1 : rootsF l (sizeA sz) roots [] [] [] = some (out, to1, now1)) (h2 : scanF l (sizeA sz) fuel 0 to1 now1 = some (to2, now2)) :
    Calls Try.prog 35 #[.pointer (some ⟨h, 0, none⟩), .slice A roots.length c, .int .i64 sz] w fun e w' => ∃ A' c' g2 gw2, e = .returned (.tuple #[.slice A' out.length c', .bool true]) ∧ ReadsInt w' .u64 A' out.length out ∧ out.length ≤ c' ∧ Hp B w' h g2 gw2 m v to2 (sizeA sz) ns ∧ Mods (fun k => k = h) w w' ∧ w.heap.size ≤ g2 ∧ w.heap.size ≤ gw2 := by
  have HH := Aside0.mk H
  have HR := Aside0.mk hr
  have HW := Aside0.mk hw
  have H1 := Aside0.mk h1
  have H2 := Aside0.mk h2
  obtain ⟨n2, hn2⟩ : ∃ n2, sizeA sz = n2 := ⟨_, rfl⟩
  obtain ⟨len, hlen⟩ : ∃ len, roots.length = len := ⟨_, rfl⟩
  have HLEN := Aside0.mk hlen
  have HN2 := Aside0.mk hn2
  rw [hn2] at H1 H2 ⊢
  rw [hlen] at hl hc HR ⊢
  clear hr hw h1 h2 hlen
  go_enter Try.func35, Try.ntmps35
  go_wp2_with fail
  go_step3
  go_upto_region 1 with (fail)
  refine reg1 (u0 := undef) (u2 := undef) (fun _ _ d _ _ h => by cases d <;> exact h) ?_
  intro g2 gw2 m2 ch gc W1 hb ha hm hcn hg hge
  rw [HN2.out] at ha
  have HS := Aside0.mk (Cs.start H hb ha hm hcn hg hge)
  clear hb ha hm hcn hg hge H hn2
  go_wp2_with fail
  go_loopg [9, 29] len (fun q v9 v29 wr => ∃ (i : Nat) (o1 to1' : List Int) (nw : List (Int × Nat)), q = len - i ∧ i ≤ len ∧ v29 = .int .i64 i ∧ Aside0 (Cs w wr gc h g gw m v l n ns g2 gw2 to1' n2 m2 ch nw B v9 o1) ∧ Aside0 (rootsF l n2 (roots.drop i) o1 to1' nw = some (out, to1, now1)) ∧ Aside0 (o1.length ≤ i))
  case atStart => exact ⟨0, [], [], [], by omega, by omega, rfl, HS, ⟨H1.out⟩, ⟨by simp⟩⟩
  case round =>
    obtain ⟨i, o1, tt, nw, rfl, hi, rfl, HC, HF, HOL⟩ := hrel
    by_cases hlt : i < len
    · have b1 : (i : Int) < (len : Int) := by omega
      obtain ⟨ad, eA, hcell⟩ := read_at (reads_mods HR.out (Mods.of_below (fun _ => False) HC.out.be) (fun _ _ => id)) i hlt
      subst eA
      have hdr : roots.drop i = roots.getD i 0 :: roots.drop (i + 1) := by
        have := HLEN.out
        rw [List.drop_eq_getElem_cons (by omega), List.getD_eq_getElem?_getD, List.getElem?_eq_getElem (by omega)]
        rfl
      have hf := HF.out
      rw [hdr] at hf
      have hbd := HW.out.getD i
      generalize roots.getD i 0 = x at hcell hf hbd
      have HMV := Aside0.mk (move_calls w wr gc h g gw m v l n ns g2 gw2 tt n2 m2 ch nw B u9 o1 x HC.out hbd.1 hbd.2)
      simp only [rootsF] at hf
      have hok : (moveF l n2 tt nw x).2.1 = true := by
        by_cases hq : (moveF l n2 tt nw x).2.1 = true
        · exact hq
        · rw [if_neg hq] at hf; cases hf
      rw [if_pos hok] at hf
      rw [hok] at HMV
      have HF2 := Aside0.mk hf
      generalize moveF l n2 tt nw x = r at HMV HF2
      clear hdr hf hbd hok HF
      go_wp2_with fail
      refine HMV.out.mono ?_
      rintro e w2 ⟨rfl, hc2⟩
      obtain ⟨r1, r2, r3, r4⟩ := r
      obtain ⟨W5, hW5⟩ : ∃ W5, w2.alloc (.cells #[.int .u64 r1] 25) = W5 := ⟨_, rfl⟩
      have hb5 : Below w2.heap.size w2 W5 := hW5 ▸ below_alloc (Below.refl _ w2) _
      have HC5 := Aside0.mk (hc2.below hb5)
      have HRD5 : Aside0 (ReadsInt W5 .u64 (some ⟨w2.heap.size, 0, none⟩) 1 [r1]) := ⟨by rw [← hW5]; exact reads_blk (xs := [r1]) (heap_alloc_new w2 _) 1 (by simp) (by omega)⟩
      have hol := HOL.out
      have HOL2 := Aside0.mk (show (o1.length + 1) * 8 ≤ 140737488355328 by omega)
      clear hc2 hb5 HMV HC hol
      go_wp2_with (at_builtin; refine print_append_row (w0 := w) w.heap.size rfl (.tmp 41) (.tmp 43) 57 25 .u64 8 rfl Try.underlying57 Go.Proofs.YtlifdpfhepamfaaAr.info64 (by decide) u9 o1 [r1] (some ⟨w2.heap.size, 0, none⟩) 1 1 rfl rfl HC5.out.ow HRD5.out HC5.out.be HC5.out.be.size HOL2.out ?_; intro v1 w6 hown6 hb6 hg6 hat6)
      have HC6 := Aside0.mk (Cs.grow HC5.out hown6 hg6 hat6)
      clear hown6 hb6 hg6 hat6
      go_roundg (len - (i + 1))
      case measure => omega
      case rel => exact ⟨i + 1, o1 ++ [r1], r3, r4, rfl, by omega, by go_num, HC6, HF2, ⟨by have := HOL.out; simp; omega⟩⟩
    · obtain rfl : i = len := by omega
      have b1 : ¬ (i : Int) < (i : Int) := by omega
      have hf := HF.out
      rw [List.drop_eq_nil_of_le (by have := HLEN.out; omega)] at hf
      simp only [rootsF, Option.some.injEq, Prod.mk.injEq] at hf
      obtain ⟨rfl, rfl, rfl⟩ := hf
      clear HF H1 HS HOL
      go_wp2_with fail
      go_step3
      go_wp2_with fail
      go_loopg [14] fuel (fun q v14 wb => ∃ (p : Int) (tt' : List Int) (nw' : List (Int × Nat)), v14 = .int .i64 p ∧ 0 ≤ p ∧ Aside0 (Cs w wb gc h g gw m v l n ns g2 gw2 tt' n2 m2 ch nw' B u9 o1) ∧ Aside0 (scanF l n2 q p tt' nw' = some (to2, now2)))
      case atStart => exact ⟨0, tt, nw, rfl, by omega, HC, H2⟩
      case round =>
        obtain ⟨p, t1, nw1, rfl, hp0, HC1, HF1⟩ := hrel
        cases gk with
        | zero => exact absurd HF1.out (by simp [scanF])
        | succ k1 =>
          have hf := HF1.out
          simp only [scanF] at hf
          obtain ⟨c0, c1, c2, c3⟩ := HC1.out.cells
          have HU := Aside0.mk (used_calls wr g2 gw2 n2 t1 HC1.out.ar)
          by_cases hge : (t1.length : Int) ≤ p
          · rw [if_pos hge] at hf
            simp only [Option.some.injEq, Prod.mk.injEq] at hf
            obtain ⟨rfl, rfl⟩ := hf
            clear HF1
            go_wp2_with fail
            refine HU.out.mono ?_
            rintro e w3 ⟨rfl, nd3, rfl⟩
            have HC3 := Aside0.mk (HC1.out.below (pw_below_drewN (Below.refl _ wr) nd3))
            have hfr := blk_frozen HC3.out.hp.hb 0
            clear HU
            go_wp2_with fail
            obtain ⟨d1, d2, d3⟩ := Cs.done HC3.out
            obtain ⟨A3, c3', hv3, hc3, hr3, _⟩ := Go.Proofs.YtlifdpfhepamfaaRowK.Row.reads (Row.of_own d3)
            subst hv3
            have HD := Aside0.mk (And.intro d1 (And.intro d2 (And.intro hc3 hr3)))
            have hge2 := HC1.out.ge
            clear d1 d2 d3 hc3 hr3
            simp only [Exit.noGoto]
            go_wp2_with fail
            go_ret2
            exact ⟨A3, c3', g2, gw2, rfl, HD.out.2.2.2, HD.out.2.2.1, HD.out.1, HD.out.2.1, hge2.2.1, hge2.2.2.1⟩
          · rw [if_neg hge] at hf
            have hcnt : (innerI t1 p).2 ≤ 40000 := by
              by_cases hq : (innerI t1 p).2 ≤ 40000
              · exact hq
              · rw [if_neg hq] at hf; cases hf
            rw [if_pos hcnt] at hf
            replace hf := Option.bind_eq_some_iff.mp hf
            obtain ⟨s, hin, hsc⟩ := hf
            have HIN := Aside0.mk hin
            have HSC := Aside0.mk hsc
            have hin1 : (innerI t1 p).1 = 0 ∨ (innerI t1 p).1 = 1 ∨ (innerI t1 p).1 = 2 := by
              unfold innerI
              split
              · split
                · exact .inr (.inl rfl)
                · split
                  · exact .inr (.inl rfl)
                  · split
                    · exact .inr (.inr rfl)
                    · exact .inr (.inl rfl)
              · exact .inl rfl
            have hpl : p < 40000 := by have h1 := HC1.out.ar.2.2.1; have h2 := HC1.out.ar.2.2.2.1; omega
            have HNN := Aside0.mk (fun nd => inner_calls (wr.drewN nd) g2 gw2 n2 t1 p (HC1.out.below (pw_below_drewN (Below.refl _ wr) nd)).ar)
            obtain ⟨f, cnt⟩ := s
            generalize innerI t1 p = fi at HNN HIN hin1 hcnt
            obtain ⟨fr, cn⟩ := fi
            simp only at HNN HIN hin1 hcnt
            clear hin hsc HF1
            go_wp2_with fail
            refine HU.out.mono ?_
            rintro e w3 ⟨rfl, nd3, rfl⟩
            clear HU
            go_wp2_with fail
            refine (HNN.out nd3).mono ?_
            rintro e w4 ⟨rfl, nd4, rfl⟩
            have HC4 := Aside0.mk (HC1.out.below (pw_below_drewN (Below.refl _ wr) (nd3 + nd4)))
            have hfr0 : 0 ≤ fr ∧ fr ≤ 2 := by omega
            clear HNN c0 c1 c2 c3 HC1 hin1
            go_wp2_with fail
            go_loopg [63] cn.toNat (fun q v63 wi => ∃ (j : Nat) (tt' : List Int) (nw' : List (Int × Nat)), q = cn.toNat - j ∧ j ≤ cn.toNat ∧ v63 = .int .i64 j ∧ Aside0 (Cs w wi gc h g gw m v l n ns g2 gw2 tt' n2 m2 ch nw' B u9 o1) ∧ Aside0 (innerF l n2 (cn.toNat - j) (p + fr + (j : Int)) tt' nw' = some (f, cnt)))
            case atStart => exact ⟨0, t1, nw1, by omega, by omega, rfl, HC4, ⟨by have := HIN.out; simpa using this⟩⟩
            case round =>
              obtain ⟨j, t3, nw3, rfl, hj, rfl, HC5, HF5⟩ := hrel
              by_cases hjl : j < cn.toNat
              · have b1 : (j : Int) < cn := by omega
                have hf5 := HF5.out
                obtain ⟨kk, hkk⟩ : ∃ kk, cn.toNat - j = kk + 1 := ⟨cn.toNat - j - 1, by omega⟩
                rw [hkk] at hf5
                simp only [innerF] at hf5
                have HWD := Aside0.mk (word_calls wr g2 gw2 n2 t3 (p + fr + (j : Int)) HC5.out.ar)
                have hbd := wordA_bd HC5.out.ar.2.2.2.2 (p + fr + (j : Int))
                generalize wordA t3 (p + fr + (j : Int)) = x at HWD hbd hf5
                have HMV := Aside0.mk (fun nd => move_calls w (wr.drewN nd) gc h g gw m v l n ns g2 gw2 t3 n2 m2 ch nw3 B u9 o1 x (HC5.out.below (pw_below_drewN (Below.refl _ wr) nd)) hbd.1 hbd.2)
                have hrb := moveF_bd HC5.out hbd.1 hbd.2
                have hok : (moveF l n2 t3 nw3 x).2.1 = true := by
                  by_cases hq : (moveF l n2 t3 nw3 x).2.1 = true
                  · exact hq
                  · rw [if_neg hq] at hf5; cases hf5
                rw [if_pos hok] at hf5
                rw [hok] at HMV
                generalize moveF l n2 t3 nw3 x = r at HMV hf5 hrb
                obtain ⟨r1, r2, r3, r4⟩ := r
                simp only at hf5 hrb HMV
                have HF6 := Aside0.mk hf5
                have HKK := Aside0.mk hkk
                have HRB := Aside0.mk hrb
                obtain ⟨c0, c1, c2, c3⟩ := HC5.out.cells
                have hj4 : (j : Int) ≤ 40000 := by omega
                clear hf5 hkk hrb hok hbd HF5
                go_wp2_with fail
                refine HWD.out.mono ?_
                rintro e w6 ⟨rfl, nd6, rfl⟩
                go_wp2_with fail
                refine (HMV.out nd6).mono ?_
                rintro e w7 ⟨rfl, hc7⟩
                have HC7 := Aside0.mk hc7
                have HST := Aside0.mk (set_calls w7 g2 gw2 n2 r3 (p + fr + (j : Int)) r1 hc7.ar HRB.out.1 HRB.out.2)
                clear hc7 HMV HWD c0 c1 c2 c3
                obtain ⟨c0, c1, c2, c3⟩ := HC7.out.cells
                go_wp2_with fail
                refine HST.out.mono ?_
                rintro e w8 ⟨rfl, ha8, hm8⟩
                have HC8 := Aside0.mk (HC7.out.arena ha8 (hm8.mono (S' := fun k => k = g2 ∨ k = gw2) (fun k hk => .inr hk)) (by rw [setA_length]; exact Nat.le_refl _))
                clear ha8 hm8 HST HC7 c0 c1 c2 c3
                go_wp2_with fail
                go_roundg (cn.toNat - (j + 1))
                case measure => omega
                case rel => exact ⟨j + 1, _, r4, rfl, by omega, by go_num, HC8, ⟨by have h6 := HF6.out; have h7 := HKK.out; rw [show cn.toNat - (j + 1) = kk by omega, show p + fr + ((j + 1 : Nat) : Int) = p + fr + (j : Int) + 1 by omega]; exact h6⟩⟩
              · have b1 : ¬ (j : Int) < cn := by omega
                have hf5 := HF5.out
                rw [show cn.toNat - j = 0 by omega] at hf5
                simp only [innerF, Option.some.injEq, Prod.mk.injEq] at hf5
                obtain ⟨rfl, rfl⟩ := hf5
                obtain ⟨c0, c1, c2, c3⟩ := HC5.out.cells
                have HEX := Aside0.mk (Go.Proofs.YtlifdpfhepamfaaWd.extent_calls wr g2 gw2 n2 t3 p HC5.out.ar)
                have heb := extA_bd HC5.out.ar.2.2.2.2 p
                have hl1 := HC5.out.ar.2.2.1
                have hl2 := HC5.out.ar.2.2.2.1
                generalize extA t3 p = ex at HEX HSC heb
                have hexb : 0 ≤ ex ∧ ex ≤ 40000 := by omega
                clear HF5 heb hl1 hl2
                go_wp2_with fail
                refine HEX.out.mono ?_
                rintro e w6 ⟨rfl, nd6, rfl⟩
                have HC6 := Aside0.mk (HC5.out.below (pw_below_drewN (Below.refl _ wr) nd6))
                clear HEX HC5
                go_wp2_with fail
                go_roundg k1
                case measure => omega
                case rel => exact ⟨p + ex, t3, nw3, by go_num, by omega, HC6, HSC⟩
end Go.Proofs.YtlifdpfhepamfaaCc
namespace Go.Proofs.YtlifdpfhepamfaaQr
open Go.RowKit Go.Maps Go.Proofs.YtlifdpfhepamfaaW.PrintWords Go.Proofs.YtlifdpfhepamfaaW.PrintLast Go.Proofs.YtlifdpfhepamfaaW.PrintMore Go.Proofs.YtlifdpfhepamfaaMem Go.Proofs.YtlifdpfhepamfaaLeaf Go.Proofs.YtlifdpfhepamfaaBits Go.Proofs.YtlifdpfhepamfaaRow Go.Proofs.YtlifdpfhepamfaaCm Go.Proofs
set_option linter.unusedVariables false
set_option linter.unusedSimpArgs false
theorem info3 : (Try.prog.info? 3).map (fun i => (i.zero, i.size, i.bytes)) = some (some (.int .i64 0), 1, 8) := by kernel_rfl
def Qr (W : World) (b : Nat) (v : Value) (xs : List Int) : Prop :=
  (v = .slice none 0 0 ∧ xs = []) ∨ ∃ g o cap cur, v = .slice (some ⟨g, o, none⟩) xs.length cap ∧ b ≤ g ∧ W.heap[g]? = some (.cells cur 3 (0, 0)) ∧ xs.length ≤ cap ∧ cap ≤ maxLen ∧ o + cap ≤ cur.size ∧ ∀ j, j < xs.length → cur[o + j]? = some (.int .i64 (xs.getD j 0))
section
variable {W W1 : World} {b : Nat} {v : Value} {xs : List Int} {S : Nat → Prop}
theorem Qr.mods (h : Qr W b v xs) (hm : Mods S W W1) (hn : ∀ k, v.ownBlock = some k → ¬ S k) : Qr W1 b v xs := by
  rcases h with h | ⟨g, o, cap, cur, rfl, h1, h2, h3⟩
  · exact .inl h
  · exact .inr ⟨g, o, cap, cur, rfl, h1, hm.blk h2 (hn g rfl), h3⟩
theorem Qr.base (h : Qr W b v xs) : ∀ k, v.ownBlock = some k → b ≤ k ∧ k < W.heap.size := by
  intro k hk
  rcases h with ⟨rfl, _⟩ | ⟨g, o, cap, cur, rfl, h1, h2, _⟩
  · cases hk
  · injection hk with hk
    subst hk
    exact ⟨h1, blk_lt h2⟩
theorem Qr.ne (h : Qr W b v xs) {g : Nat} {cs : Array Value} {t : TypeId} (hg : W.heap[g]? = some (.cells cs t (0, 0))) (ht : t ≠ 3) : v.ownBlock ≠ some g := by
  rcases h with ⟨rfl, _⟩ | ⟨q, o, cap, cur, rfl, _, hh, _⟩
  · simp [Value.ownBlock]
  · intro e1
    simp only [Value.ownBlock, Option.some.injEq] at e1
    subst e1
    rw [hg] at hh
    simp only [Option.some.injEq, Obj.cells.injEq] at hh
    exact ht hh.2.1
theorem Qr.form (h : Qr W b v xs) : ∃ A c, v = .slice A xs.length c := by
  rcases h with ⟨rfl, rfl⟩ | ⟨g, o, cap, cur, rfl, _⟩
  · exact ⟨none, 0, rfl⟩
  · exact ⟨_, _, rfl⟩
theorem Qr.of_own (h : W.ownsRow b 3 1 v xs.length (nums .i64 xs)) : Qr W b v xs := by
  rcases h.2 with ⟨rfl, h0⟩ | ⟨g, cap, cur, rfl, h1, h2, h3, h4, h5, h6⟩
  · exact .inl ⟨rfl, List.eq_nil_of_length_eq_zero h0⟩
  · refine .inr ⟨g, 0, cap, cur, rfl, h1, h2, h3, h4, by omega, fun j hj => ?_⟩
    have q : (cur.toList.take (xs.length * 1))[j]? = (nums .i64 xs)[j]? := by rw [h6]
    rw [List.getElem?_take, if_pos (by omega)] at q
    rw [Nat.zero_add, ← Array.getElem?_toList, q]
    simp [nums, List.getD_eq_getElem?_getD, hj]
end
set_option maxHeartbeats 4000000 in
/-- One more at the end. -/
theorem run_append_q {W : World} {b : Nat} {v : Value} {xs : List Int} {x : Int} {ty : TypeId} (h : Qr W b v xs) (hb : b ≤ W.heap.size) (hl : xs.length + 1 ≤ 1000000) {ad : Addr} {c : Nat} (hx : W.cell? ad = some (.int .i64 x)) (hadd : ad.add 0 = ad) :
    ∃ v' W', (Builtin.append_ #[51, 51] ty #[v, .slice (some ad) 1 c]).run Try.prog W = .ok v' W' ∧ Qr W' b v' (xs ++ [x]) ∧ W.grownBy W' v.ownBlock ∧ (v'.ownBlock = v.ownBlock ∨ ∃ k, v'.ownBlock = some k ∧ W.heap.size ≤ k) := by
  obtain ⟨i0, hi, hz⟩ := Option.map_eq_some_iff.1 info3
  simp only [Prod.mk.injEq] at hz
  obtain ⟨hz0, hz1, hz2⟩ := hz
  have hnews : ∀ j u, ([Value.int .i64 x])[j]? = some u → W.cell? (ad.add j) = some u := by
    intro j u hu
    match j with
    | 0 => rw [hadd, hx]; simpa using hu
    | j + 1 => simp at hu
  have hone : ∀ u ∈ [Value.int .i64 x], u.oneCell' = true := by intro u hu; simp at hu; subst hu; rfl
  have hown1 : ∀ {v' : Value} {W' : World}, W'.ownsRow W.heap.size 3 1 v' (xs.length + 1) (nums .i64 xs ++ [.int .i64 x]) → Qr W' b v' (xs ++ [x]) ∧ (∃ k, v'.ownBlock = some k ∧ W.heap.size ≤ k) := by
    intro v' W' ho
    have e1 : nums .i64 xs ++ [.int .i64 x] = nums .i64 (xs ++ [x]) := by simp [nums]
    rw [e1] at ho
    have e2 : xs.length + 1 = (xs ++ [x]).length := by simp
    rw [e2] at ho
    refine ⟨?_, ?_⟩
    · rcases Qr.of_own ho with q | ⟨g, o, cap, cur, q1, q2, q3⟩
      · simp at q
      · exact .inr ⟨g, o, cap, cur, q1, by omega, q3⟩
    · rcases ho.2 with ⟨rfl, h0⟩ | ⟨g, cap, cur, rfl, h1, _⟩
      · simp at h0
      · exact ⟨g, rfl, h1⟩
  rcases h with ⟨rfl, rfl⟩ | ⟨g, o, cap, cur, rfl, h1, h2, h3, h4, h5, h6⟩
  · obtain ⟨v', W', q1, q2, q3, _⟩ := run_append_own (P := Try.prog) W W.heap.size 51 ty 3 i0 (.int .i64 0) 1 8 Try.underlying51 hi hz0 hz1 hz2 rfl (by decide) (.slice none 0 0) 0 [] (World.ownsRow_nil W _ 3 1) ad 1 c [.int .i64 x] rfl hnews hone (by unfold maxLen; omega) (by omega) (Nat.le_refl _)
    obtain ⟨r1, r2⟩ := hown1 (v' := v') (W' := W') (by simpa [nums] using q2)
    exact ⟨v', W', q1, r1, q3, .inr r2⟩
  · by_cases hroom : xs.length + 1 ≤ cap
    · have hf : W.frozen? ⟨g, o + xs.length, none⟩ = false := by simp [World.frozen?, h2]
      have hc : (W.cell? ⟨g, o + xs.length, none⟩).isSome = true := by
        rw [show W.cell? ⟨g, o + xs.length, none⟩ = cur[o + xs.length]? by simp [World.cell?, h2], Array.getElem?_eq_getElem (by omega)]
        rfl
      have hrun := run_append_room_cells (P := Try.prog) W 51 ty 3 i0 Try.underlying51 hi g o xs.length cap ad 1 c [.int .i64 x] (by rw [hz1]; rfl) hnews hone hroom
        (fun j hj => by have e0 : j = 0 := (by simpa using hj); subst e0; rw [hz1, Nat.mul_one, Nat.add_zero]; exact hc) (fun j hj => by have e0 : j = 0 := (by simpa using hj); subst e0; rw [hz1, Nat.mul_one, Nat.add_zero]; exact hf)
      have hset : W.setCells g (o + xs.length * i0.size) [.int .i64 x] = W.setCell ⟨g, o + xs.length, none⟩ (.int .i64 x) := by rw [hz1, Nat.mul_one]; rfl
      rw [hset] at hrun
      refine ⟨_, _, hrun, ?_, ?_, .inl rfl⟩
      · refine .inr ⟨g, o, cap, cur.setIfInBounds (o + xs.length) (.int .i64 x), by simp, h1, blk_set h2 _ _, by simpa using hroom, h4, by simpa using h5, fun j hj => ?_⟩
        rw [List.length_append, List.length_singleton] at hj
        rw [Array.getElem?_setIfInBounds]
        by_cases e : j = xs.length
        · subst e
          rw [if_pos rfl, if_pos (by omega)]
          simp
        · rw [if_neg (by omega), h6 j (by omega), List.getD_eq_getElem?_getD, List.getD_eq_getElem?_getD, List.getElem?_append_left (by omega)]
      · exact ⟨rfl, rfl, rfl, by simp [World.setCell], fun k hk hn => by
          have hm : Mods (fun k => k = g) W (W.setCell ⟨g, o + xs.length, none⟩ (.int .i64 x)) := (Mods.refl (fun k => k = g) W).setCell (p := ⟨g, o + xs.length, none⟩) (.inl rfl) _
          exact hm.block k hk (fun e => hn (by rw [e]; rfl))⟩
    · obtain ⟨v', W', q1, q2, q3⟩ := run_append_arg_grows (P := Try.prog) W 51 ty 3 i0 (.int .i64 0) 1 8 Try.underlying51 hi hz0 hz1 hz2 rfl (by decide) ⟨g, o, none⟩ xs.length cap (nums .i64 xs) (by simp [nums]) (fun j u hu => by
          simp only [nums, List.getElem?_map, Option.map_eq_some_iff] at hu
          obtain ⟨y, hy, rfl⟩ := hu
          have hj := (List.getElem?_eq_some_iff.1 hy).1
          rw [Addr.add_lit, show W.cell? ⟨g, o + j, none⟩ = cur[o + j]? by simp [World.cell?, h2], h6 j hj, List.getD_eq_getElem?_getD, hy]
          rfl) ad 1 c [.int .i64 x] rfl hnews (by omega) (by unfold maxLen; omega) (by omega)
      obtain ⟨r1, r2⟩ := hown1 q2
      exact ⟨v', W', q1, r1, ⟨q3.os, q3.tape, q3.output, q3.size, fun k hk _ => q3.block k hk (by simp)⟩, .inr r2⟩
theorem wp_append_q {ops : Array Oper} {rest : List Oper} {o : Oper} {a : Act} {W : World} {Q : Exit → Act → World → Prop}
    (hg : o.guard = none) (s x : Operand) (hop : o.op = Op.call { callee := Callee.builtin Builtin.append, args := #[s, x], argTypes := #[51, 51] })
    {b : Nat} {v : Value} {xs : List Int} {y : Int} (h : Qr W b v xs) (hb : b ≤ W.heap.size) (hl : xs.length + 1 ≤ 1000000) {ad : Addr} {c : Nat} (hy : W.cell? ad = some (.int .i64 y)) (hadd : ad.add 0 = ad) (hs : a.eval s = v) (hx : a.eval x = .slice (some ad) 1 c)
    (hK : ∀ v' W', Qr W' b v' (xs ++ [y]) → W.grownBy W' v.ownBlock → (v'.ownBlock = v.ownBlock ∨ ∃ k, v'.ownBlock = some k ∧ W.heap.size ≤ k) → wpList Try.prog ops Q rest (a.put o.dst v') W') :
    wpList Try.prog ops Q (o :: rest) a W := by
  obtain ⟨v', W', q1, q2, q3, q4⟩ := run_append_q (ty := o.type) h hb hl (c := c) hy hadd
  refine wpList_plain hg fun K' hK' => ?_
  unfold Oper.wp execOp
  simp only [hop, resolve, invoke, builtin, Sem.run_bind, Sem.run_pure, Result.andThen_ok, List.map_toArray, List.map_cons, List.map_nil, hs, hx, q1]
  exact hK' _ _ (hK _ _ q2 q3 q4)
end Go.Proofs.YtlifdpfhepamfaaQr
namespace Go.Proofs.YtlifdpfhepamfaaCl
open Go.RowKit Go.Maps Go.Proofs.YtlifdpfhepamfaaW.PrintWords Go.Proofs.YtlifdpfhepamfaaW.PrintLast Go.Proofs.YtlifdpfhepamfaaW.PrintMore Go.Proofs.YtlifdpfhepamfaaMem Go.Proofs.YtlifdpfhepamfaaLeaf Go.Proofs.YtlifdpfhepamfaaBits Go.Proofs.Ytlifdpfhepamfaa.PHe Go.Proofs.YtlifdpfhepamfaaRow Go.Proofs.YtlifdpfhepamfaaAr Go.Proofs.YtlifdpfhepamfaaHp Go.Proofs.YtlifdpfhepamfaaHo Go.Proofs.YtlifdpfhepamfaaWd Go.Proofs.YtlifdpfhepamfaaCp Go.Proofs.YtlifdpfhepamfaaCm Go.Proofs.YtlifdpfhepamfaaQr Go.Proofs
set_option linter.unusedVariables false
set_option linter.unusedSimpArgs false
def T7 : Bool × List (List Nat × List Nat) := (true, [([], []), ([], []), ([1], [1]), ([2], [2]), ([3], [3]), ([], []), ([4, 5], [4, 5]), ([0, 6], [0, 6]), ([7, 6, 0, 1, 2, 3, 4, 5, 6, 7], [7])])
def B7 : List Nat := [0, 0, 2, 6, 14, 0, 62, 127, 255]
theorem tab7 : rtab .any (opsOf Try.f80 7) = T7 := by kernel_rfl
theorem bits7 : waitsOk T7.2 B7 = true := by kernel_rfl
theorem zeroB (w : World) : (zeroValue 4).run Try.prog w = .ok (.bool false) w := by kernel_rfl
/-- What the map of the seen says. -/
def DS (seen : List Int) (D : DataW Unit) : Prop := IsMap D ∧ ∀ a, D.atKey (.int .i64 a) (.lit (.bool false)) = .lit (.bool (decide (a ∈ seen)))
theorem DS.nil : DS [] (.map []) := ⟨isMap_empty, fun a => by simp [DataW.atKey]⟩
theorem DS.cons {seen : List Int} {D : DataW Unit} (h : DS seen D) (a : Int) : DS (a :: seen) (D.put (.int .i64 a) (.lit (.bool true))) := by
  have hkey : WideAt.IsKeyLit (.int .i64 a) := trivial
  refine ⟨h.1.put _ _, fun b => ?_⟩
  by_cases e : b = a
  · subst e
    rw [atKey_put_same h.1 hkey]
    simp
  · have hne : (Lit.int .i64 b) ≠ .int .i64 a := fun q => by injection q with _ q; exact e q
    rw [atKey_put_other hne, h.2 b]
    simp [e]
/-- What Reach keeps: how many words, what was seen, what is next. -/
structure Rs (w W : World) (h g gw m : Nat) (v : Value) (l : List Int) (n : Nat) (ns : List ByteArray) (B : Nat) (bh bs bn bx ms : Nat) (cnt : Int) (seen next : List Int) (v7 : Value) : Prop where
  hp : Hp B W h g gw m v l n ns
  fo : ∀ k, SH h g gw m v k → k < w.heap.size
  ch : W.heap[bh]? = some (.cells #[.pointer (some ⟨h, 0, none⟩)] 23 (0, 0))
  cs : W.heap[bs]? = some (.cells #[.map (some ms)] 106 (0, 0))
  cn : W.heap[bn]? = some (.cells #[.int .i64 cnt] 3 (0, 0))
  cx : W.heap[bx]? = some (.cells #[v7] 51 (0, 0))
  mp : ∃ D, W.ownsMap (H := Unit) Try.prog 3 (plainElem Try.prog 4) ms seen.length D ∧ DS seen D
  qr : Qr W w.heap.size v7 next
  nq : v7.ownBlock ≠ some bn
  ge : w.heap.size ≤ bh ∧ w.heap.size ≤ bs ∧ w.heap.size ≤ bn ∧ w.heap.size ≤ bx ∧ w.heap.size ≤ ms
  be : Below w.heap.size w W
section
variable {w W W1 : World} {h g gw m : Nat} {v : Value} {l : List Int} {n : Nat} {ns : List ByteArray} {B bh bs bn bx ms : Nat} {cnt cnt1 : Int} {seen seen1 next next1 : List Int} {v7 v8 : Value}
theorem Rs.below (H : Rs w W h g gw m v l n ns B bh bs bn bx ms cnt seen next v7) (hb : Below W.heap.size W W1) : Rs w W1 h g gw m v l n ns B bh bs bn bx ms cnt seen next v7 := by
  obtain ⟨D, h1, h2⟩ := H.mp
  have hm := Mods.of_below (fun _ => False) hb
  exact ⟨H.hp.below hb, H.fo, hm.blk H.ch id, hm.blk H.cs id, hm.blk H.cn id, hm.blk H.cx id, ⟨D, owns_mods h1 hm id, h2⟩, H.qr.mods hm (fun _ _ => id), H.nq, H.ge, below_step H.be hb⟩
theorem Rs.cells (H : Rs w W h g gw m v l n ns B bh bs bn bx ms cnt seen next v7) : W.cell? ⟨bh, 0, none⟩ = some (.pointer (some ⟨h, 0, none⟩)) ∧ W.cell? ⟨bs, 0, none⟩ = some (.map (some ms)) ∧ W.cell? ⟨bn, 0, none⟩ = some (.int .i64 cnt) ∧ W.cell? ⟨bx, 0, none⟩ = some v7 ∧ W.cell? ⟨h, 0, none⟩ = some (.pointer (some ⟨g, 0, none⟩)) ∧ W.frozen? ⟨bn, 0, none⟩ = false ∧ W.frozen? ⟨bx, 0, none⟩ = false :=
  ⟨(blk_cell H.ch 0).trans rfl, (blk_cell H.cs 0).trans rfl, (blk_cell H.cn 0).trans rfl, (blk_cell H.cx 0).trans rfl, H.hp.cells.1, blk_frozen H.cn 0, blk_frozen H.cx 0⟩
theorem ne_obj {W : World} {i j : Nat} {x y : Obj} (h1 : W.heap[i]? = some x) (h2 : W.heap[j]? = some y) (hxy : x ≠ y) : i ≠ j := by
  intro e
  subst e
  rw [h1] at h2
  injection h2 with h2
  exact hxy h2
theorem Rs.map (H : Rs w W h g gw m v l n ns B bh bs bn bx ms cnt seen next v7) {D : DataW Unit} (ho : W1.ownsMap (H := Unit) Try.prog 3 (plainElem Try.prog 4) ms seen1.length D) (hd : DS seen1 D) (hm : Mods (fun k => k = ms) W W1) : Rs w W1 h g gw m v l n ns B bh bs bn bx ms cnt seen1 next v7 := by
  obtain ⟨D0, ⟨es, ck, hme, _⟩, _⟩ := H.mp
  obtain ⟨a1, a2, a3, a4, a5⟩ := H.ge
  refine ⟨H.hp.mods hm (fun k hk hs => by have := H.fo k hk; omega), H.fo, hm.blk H.ch (ne_obj H.ch hme (by intro e; cases e)), hm.blk H.cs (ne_obj H.cs hme (by intro e; cases e)), hm.blk H.cn (ne_obj H.cn hme (by intro e; cases e)), hm.blk H.cx (ne_obj H.cx hme (by intro e; cases e)), ⟨D, ho, hd⟩,
    H.qr.mods hm (fun k hk e => ?_), H.nq, H.ge, below_mods H.be hm H.be.size (by rintro k rfl; omega)⟩
  subst e
  rcases H.qr with ⟨q, _⟩ | ⟨g, o, cap, cur, q, _, hh, _⟩
  · rw [q] at hk; cases hk
  · rw [q] at hk
    injection hk with hk
    subst hk
    rw [hme] at hh
    cases hh
theorem Rs.count (H : Rs w W h g gw m v l n ns B bh bs bn bx ms cnt seen next v7) (x : Int) : Rs w (W.setCell ⟨bn, 0, none⟩ (.int .i64 x)) h g gw m v l n ns B bh bs bn bx ms x seen next v7 := by
  obtain ⟨D0, ho, hd⟩ := H.mp
  obtain ⟨es, ck, hme, _⟩ := ho
  obtain ⟨a1, a2, a3, a4, a5⟩ := H.ge
  have hm : Mods (fun k => k = bn) W (W.setCell ⟨bn, 0, none⟩ (.int .i64 x)) := (Mods.refl (fun k => k = bn) W).setCell (p := ⟨bn, 0, none⟩) (.inl rfl) _
  obtain ⟨D, h1, h2⟩ := H.mp
  exact ⟨H.hp.mods hm (fun k hk hs => by have := H.fo k hk; omega), H.fo, hm.blk H.ch (blk_ne H.ch H.cn (by decide)), hm.blk H.cs (blk_ne H.cs H.cn (by decide)), blk_put H.cn 0 _ rfl, hm.blk H.cx (blk_ne H.cx H.cn (by decide)), ⟨D, owns_mods h1 hm (Ne.symm (ne_obj H.cn hme (by intro e; cases e))), h2⟩,
    H.qr.mods hm (fun k hk e => H.nq (by rw [hk, e])), H.nq, H.ge, below_mods H.be hm H.be.size (by rintro k rfl; omega)⟩
theorem Rs.queue (H : Rs w W h g gw m v l n ns B bh bs bn bx ms cnt seen next v7) (hq : Qr W1 w.heap.size v8 next1) (hg : W.grownBy W1 v7.ownBlock) (hat : v8.ownBlock = v7.ownBlock ∨ ∃ k, v8.ownBlock = some k ∧ W.heap.size ≤ k) : Rs w (W1.setCell ⟨bx, 0, none⟩ v8) h g gw m v l n ns B bh bs bn bx ms cnt seen next1 v8 := by
  obtain ⟨D, h1, h2⟩ := H.mp
  obtain ⟨es, ck, hme, _⟩ := id h1
  obtain ⟨a1, a2, a3, a4, a5⟩ := H.ge
  have hm := Mods.of_grown hg
  have hfo : ∀ k, k < w.heap.size → ¬ some k = v7.ownBlock := fun k hk e => by have := (H.qr.base k e.symm).1; omega
  have hms : ¬ some ms = v7.ownBlock := by
    intro e
    rcases H.qr with ⟨q, _⟩ | ⟨q1, o, cap, cur, q, _, hh, _⟩
    · rw [q] at e; cases e
    · rw [q] at e
      injection e with e
      subst e
      rw [hme] at hh
      cases hh
  have e1 := hm.blk H.ch (fun e => H.qr.ne H.ch (by decide) e.symm)
  have e2 := hm.blk H.cs (fun e => H.qr.ne H.cs (by decide) e.symm)
  have e3 := hm.blk H.cn (fun e => H.nq e.symm)
  have e4 := hm.blk H.cx (fun e => H.qr.ne H.cx (by decide) e.symm)
  have o1 := owns_mods h1 hm hms
  obtain ⟨es1, ck1, hme1, _⟩ := id o1
  have hm2 : Mods (fun k => k = bx) W1 (W1.setCell ⟨bx, 0, none⟩ v8) := (Mods.refl (fun k => k = bx) W1).setCell (p := ⟨bx, 0, none⟩) (.inl rfl) _
  refine ⟨(H.hp.mods hm (fun k hk => hfo k (H.fo k hk))).mods hm2 (fun k hk e => by have := H.fo k hk; omega), H.fo, hm2.blk e1 (blk_ne e1 e4 (by decide)), hm2.blk e2 (blk_ne e2 e4 (by decide)), hm2.blk e3 (blk_ne e3 e4 (by decide)), blk_put e4 0 _ rfl, ⟨D, owns_mods o1 hm2 (Ne.symm (ne_obj e4 hme1 (by intro e; cases e))), h2⟩,
    hq.mods hm2 (fun k hk e => by subst e; exact hq.ne e4 (by decide) hk), ?_, H.ge, below_mods (below_mods H.be hm H.be.size (fun k e => (H.qr.base k e.symm).1)) hm2 (Nat.le_trans H.be.size hm.size) (by rintro k rfl; omega)⟩
  rcases hat with e | ⟨k, e, hk⟩
  · rw [e]; exact H.nq
  · rw [e]
    intro e'
    injection e' with e'
    have := blk_lt H.cn
    omega
end
def lookF (l : List Int) (cnt : Int) (seen next : List Int) (x : Int) : Bool × Int × List Int × List Int :=
  if pointsI x = false then (true, cnt, seen, next)
  else if goodI l x = false then (false, cnt, seen, next)
  else if atI x ∈ seen then (true, cnt, seen, next)
  else (true, cnt + extA l (atI x), atI x :: seen, next ++ [atI x])
theorem wI2 {x : Int} (h : 0 ≤ x ∧ x ≤ 2000000) : wrap64 x = x := by unfold wrap64; omega
theorem bool_inv {v : Value} {x : Bool} {ps : List MemPlace} (h : plainElem (H := Unit) Try.prog 4 v = some (.lit (.bool x), ps)) : v = .bool x := by
  have hu := Try.underlying4
  unfold plainElem at h
  cases v <;> simp_all
theorem Rs.seen_ (w W : World) (h g gw m : Nat) (v : Value) (l : List Int) (n : Nat) (ns : List ByteArray) (B bh bs bn bx ms : Nat) (cnt : Int) (seen next : List Int) (v7 : Value) (a : Int) (H : Rs w W h g gw m v l n ns B bh bs bn bx ms cnt seen next v7) (hkey : keyOf Try.prog 3 (.int .i64 a) = some (.int .i64 a)) :
    (Instr.lookup 106 (.map (some ms)) (.int .i64 a) false).run Try.prog W = .ok (.bool (decide (a ∈ seen))) W := by
  obtain ⟨D, h1, h2⟩ := H.mp
  obtain ⟨u, ps, hrun, hu⟩ := h1.lookup lawI Try.underlying106 (zeroB W) (plainElem_bool Try.underlying4 false) hkey
  rw [h2.2 a] at hu
  rw [hrun, bool_inv hu]
set_option maxHeartbeats 8000000 in
set_option maxRecDepth 100000 in
theorem look_calls (w W : World) (h g gw m : Nat) (v : Value) (l : List Int) (n : Nat) (ns : List ByteArray) (B bh bs bn bx ms : Nat) (cnt : Int) (seen next : List Int) (v7 : Value) (x : Int) (H : Rs w W h g gw m v l n ns B bh bs bn bx ms cnt seen next v7) (x0 : 0 ≤ x) (x1 : x < 18446744073709551616) (hsl : seen.length ≤ 100000) (hnl : next.length ≤ 100000) (hc0 : 0 ≤ cnt ∧ cnt ≤ 1000000) :
    Calls Try.prog 80 #[.int .u64 x, .pointer (some ⟨bh, 0, none⟩), .pointer (some ⟨bs, 0, none⟩), .pointer (some ⟨bn, 0, none⟩), .pointer (some ⟨bx, 0, none⟩)] W fun e w' => e = .returned (.bool (lookF l cnt seen next x).1) ∧ ∃ v8, Rs w w' h g gw m v l n ns B bh bs bn bx ms (lookF l cnt seen next x).2.1 (lookF l cnt seen next x).2.2.1 (lookF l cnt seen next x).2.2.2 v8 := by
  have HC := Aside0.mk H
  have HPT := Aside0.mk (fun W' => points_calls x W')
  have HGD := Aside0.mk (fun W' (hH : Hp B W' h g gw m v l n ns) => good_calls W' B h g gw m v l n ns x hH x0 x1)
  have hat := at_eq x x0 x1
  obtain ⟨a, ha⟩ : ∃ a, atI x = a := ⟨_, rfl⟩
  rw [ha] at hat
  have HAT := Aside0.mk (fun W' => word_At.calls x a W' hat)
  have hln := H.hp.ar.2.2.1
  have hn32 := H.hp.ar.2.2.2.1
  by_cases hp : pointsI x = true
  · by_cases hg : goodI l x = true
    · obtain ⟨t1, t2, t3, t4⟩ := good_at hp hg
      rw [ha] at t2 t3 t4
      have hkey : keyOf Try.prog 3 (.int .i64 a) = some (.int .i64 a) := keyOf_int_mk Try.underlying3 (WalkArith.wf_i64 ⟨by omega, by omega⟩)
      have HSE := Aside0.mk (fun W' cnt' seen' next' v7' (hR : Rs w W' h g gw m v l n ns B bh bs bn bx ms cnt' seen' next' v7') => Rs.seen_ w W' h g gw m v l n ns B bh bs bn bx ms cnt' seen' next' v7' a hR hkey)
      rw [hp] at HPT
      rw [hg] at HGD
      by_cases hm : a ∈ seen
      · have hlf : lookF l cnt seen next x = (true, cnt, seen, next) := by unfold lookF; rw [if_neg (by rw [hp]; simp), if_neg (by rw [hg]; simp), ha, if_pos hm]
        rw [hlf]
        have hdm : decide (a ∈ seen) = true := decide_eq_true hm
        clear H hp hg hlf ha hat hm
        go_enter Try.func80, Try.ntmps80
        go_wp2_with fail
        refine (HAT.out _).mono ?_
        rintro e w1 ⟨rfl, nd, rfl⟩
        go_wp2_with fail
        refine (HPT.out _).mono ?_
        rintro e w2 ⟨rfl, nd2, rfl⟩
        have HC2 := Aside0.mk (HC.out.below (pw_below_drewN (Below.refl _ W) (nd + nd2)))
        obtain ⟨c1, c2, c3, c4, c5, c6, c7⟩ := HC2.out.cells
        go_wp2_with fail
        refine (HGD.out _ HC2.out.hp).mono ?_
        rintro e w3 ⟨rfl, nd3, rfl⟩
        have HC3 := Aside0.mk (HC.out.below (pw_below_drewN (Below.refl _ W) (nd + nd2 + nd3)))
        have hse := HSE.out _ _ _ _ _ HC3.out
        rw [hdm] at hse
        clear c1 c2 c3 c4 c5 c6 c7
        obtain ⟨c1, c2, c3, c4, c5, c6, c7⟩ := HC3.out.cells
        go_wp2_with fail
        go_ret
        exact ⟨rfl, v7, HC3.out⟩
      · have hlf : lookF l cnt seen next x = (true, cnt + extA l a, a :: seen, next ++ [a]) := by unfold lookF; rw [if_neg (by rw [hp]; simp), if_neg (by rw [hg]; simp), ha, if_neg hm]
        rw [hlf]
        have hdm : decide (a ∈ seen) = false := decide_eq_false hm
        have HEX := Aside0.mk (fun W' (hH : Hp B W' h g gw m v l n ns) => (Go.Proofs.YtlifdpfhepamfaaWd.extent_calls W' g gw n l a hH.ar).mono (R' := fun e w' => e = .returned (.int .i64 (extA l a)) ∧ Below W'.heap.size W' w') (by rintro e w' ⟨rfl, nd, rfl⟩; exact ⟨rfl, pw_below_drewN (Below.refl _ W') nd⟩))
        obtain ⟨ex, hex⟩ : ∃ ex, extA l a = ex := ⟨_, rfl⟩
        rw [hex] at HEX t2 t4 ⊢
        have hexb : 0 < ex ∧ ex ≤ 40000 := by omega
        have HSL := Aside0.mk (show seen.length < maxLen by unfold maxLen; omega)
        clear H hp hg hlf ha hat hm hex
        go_enter Try.func80, Try.ntmps80
        go_wp2_with fail
        refine (HAT.out _).mono ?_
        rintro e w1 ⟨rfl, nd, rfl⟩
        go_wp2_with fail
        refine (HPT.out _).mono ?_
        rintro e w2 ⟨rfl, nd2, rfl⟩
        have HC2 := Aside0.mk (HC.out.below (pw_below_drewN (Below.refl _ W) (nd + nd2)))
        obtain ⟨c1, c2, c3, c4, c5, c6, c7⟩ := HC2.out.cells
        go_wp2_with fail
        refine (HGD.out _ HC2.out.hp).mono ?_
        rintro e w3 ⟨rfl, nd3, rfl⟩
        have HC3 := Aside0.mk (HC.out.below (pw_below_drewN (Below.refl _ W) (nd + nd2 + nd3)))
        have hse := HSE.out _ _ _ _ _ HC3.out
        rw [hdm] at hse
        clear c1 c2 c3 c4 c5 c6 c7
        obtain ⟨c1, c2, c3, c4, c5, c6, c7⟩ := HC3.out.cells
        go_wp2_with fail
        refine (HGD.out _ HC3.out.hp).mono ?_
        rintro e w4 ⟨rfl, nd4, rfl⟩
        have HC4 := Aside0.mk (HC.out.below (pw_below_drewN (Below.refl _ W) (nd + nd2 + nd3 + nd4)))
        clear c1 c2 c3 c4 c5 c6 c7 hse
        obtain ⟨c1, c2, c3, c4, c5, c6, c7⟩ := HC4.out.cells
        obtain ⟨D, hown, hD⟩ := HC4.out.mp
        have HOWN := Aside0.mk hown
        have HDS := Aside0.mk hD
        clear hown hD
        go_wp2_with (at_mapUpdate; refine wpList_mapUpdate_own _ rfl _ _ _ 106 rfl 3 4 lawI Try.underlying106 _ ms seen.length D rfl HOWN.out HSL.out _ _ _ rfl rfl hkey _ [] (plainElem_bool Try.underlying4 true) ?_; intro w5 hown5 hg5)
        have HC5 := Aside0.mk (HC4.out.map (seen1 := a :: seen) hown5 (HDS.out.cons a) ((Mods.of_grown hg5).mono (fun k hk => by injection hk)))
        clear hown5 hg5 HOWN HDS c1 c2 c3 c4 c5 c6 c7
        have HE1 := Aside0.mk (show wrap64 (cnt + ex) = cnt + ex from Go.Proofs.YtlifdpfhepamfaaCl.wI2 (by omega))
        have HBB := Aside0.mk (below_drew (Below.refl w5.heap.size w5))
        refine start_ (n := 9) (S := fun w' => Below w5.heap.size w5 w') (ds := [8]) #[false, false, false, false, false, false, false, false, false] (by kernel_rfl) rfl rfl HBB.out (fun hHeld => ?_); refine with_tabW tab7 bits7 (fun HT_ HW_ => ?_)
        generalize w5.drew = wd at HBB hHeld ⊢
        refine take_ (i := 0) (N := (some 31)) (v := (.int .i64 cnt)) (a' := ?_) #[true, false, false, false, false, false, false, false, false] rfl rfl (take_ofW HT_.out HW_.out (by kernel_rfl)) (fun _ _ _ h => h) (Or.inl ⟨by rfl, ?_⟩) hHeld ?_ ?_
        · (intro w' hs; obtain ⟨c1, c2, c3, c4, c5, c6, c7⟩ := (HC5.out.below hs).cells; go_simp)
        rotate_left; (simp only [Act.put, List.setIfInBounds_toArray, List.set_cons_zero, List.set_cons_succ, i64_w, i32_w]; rfl)
        refine take_ (i := 1) (N := (some 32)) (v := (.pointer (some ⟨h, 0, none⟩))) (a' := ?_) #[true, true, false, false, false, false, false, false, false] rfl rfl (take_ofW HT_.out HW_.out (by kernel_rfl)) (fun _ _ _ h => h) (Or.inl ⟨by rfl, ?_⟩) hHeld ?_ ?_
        · (intro w' hs; obtain ⟨c1, c2, c3, c4, c5, c6, c7⟩ := (HC5.out.below hs).cells; go_simp)
        rotate_left; (simp only [Act.put, List.setIfInBounds_toArray, List.set_cons_zero, List.set_cons_succ, i64_w, i32_w]; rfl)
        refine pure_ (i := 2) (N := (some 33)) (v := ?_) (a' := ?_) #[true, true, true, false, false, false, false, false, false] rfl rfl (any_of HT_.out (by kernel_rfl)) (fun _ _ _ h => h) (Or.inl ⟨by rfl, ?_⟩) ?_ ?_
        rotate_left; (intro w'; go_simp; with_reducible rfl)
        rotate_left; (simp only [Act.put, List.setIfInBounds_toArray, List.set_cons_zero, List.set_cons_succ, i64_w, i32_w]; rfl)
        refine pure_ (i := 3) (N := (some 34)) (v := ?_) (a' := ?_) #[true, true, true, true, false, false, false, false, false] rfl rfl (any_of HT_.out (by kernel_rfl)) (fun _ _ _ h => h) (Or.inl ⟨by rfl, ?_⟩) ?_ ?_
        rotate_left; (intro w'; go_simp; with_reducible rfl)
        rotate_left; (simp only [Act.put, List.setIfInBounds_toArray, List.set_cons_zero, List.set_cons_succ, i64_w, i32_w]; rfl)
        refine take_ (i := 4) (N := (some 35)) (v := (.pointer (some ⟨g, 0, none⟩))) (a' := ?_) #[true, true, true, true, true, false, false, false, false] rfl rfl (take_ofW HT_.out HW_.out (by kernel_rfl)) (fun _ _ _ h => h) (Or.inl ⟨by rfl, ?_⟩) hHeld ?_ ?_
        · (intro w' hs; obtain ⟨c1, c2, c3, c4, c5, c6, c7⟩ := (HC5.out.below hs).cells; go_simp)
        rotate_left; (simp only [Act.put, List.setIfInBounds_toArray, List.set_cons_zero, List.set_cons_succ, i64_w, i32_w]; rfl)
        refine pure_ (i := 5) (N := (some 36)) (v := ?_) (a' := ?_) #[true, true, true, true, true, true, false, false, false] rfl rfl (any_of HT_.out (by kernel_rfl)) (fun _ _ _ h => h) (Or.inl ⟨by rfl, ?_⟩) ?_ ?_
        rotate_left; (intro w'; go_simp; with_reducible rfl)
        rotate_left; (simp only [Act.put, List.setIfInBounds_toArray, List.set_cons_zero, List.set_cons_succ, i64_w, i32_w]; rfl)
        refine one_ (i := 6) (N := (some 37)) #[true, true, true, true, true, true, true, false, false] rfl rfl (one_of HT_.out (by kernel_rfl)) (by decide) (fun K hK => ?_)
        refine goes_ Try.func83 (by kernel_rfl) rfl #[.pointer (some ⟨g, 0, none⟩), .int .i64 a] (by rfl) rfl rfl (by (try simp only [List.map_toArray, List.map_cons, List.map_nil]); first | done | rfl) ?_
        refine (HEX.out _ (HC5.out.below HBB.out).hp).mono ?_
        rintro e wn ⟨rfl, hb⟩
        refine ⟨_, rfl, ?_⟩
        have n0_ := Aside0.mk (below_step HBB.out hb)
        clear HBB hHeld hb
        have HBB := n0_
        clear n0_
        refine hK.out _ _ HBB.out (fun hHeld => ?_)
        clear hK K
        refine norm_ (a' := ?_) ?_ ?_
        rotate_left
        · show Act.put _ (some 37) _ = _
          simp only [Act.put, List.setIfInBounds_toArray, List.set_cons_zero, List.set_cons_succ, i64_w, i32_w]
          rfl
        refine pure_ (i := 7) (N := (some 38)) (v := (.int .i64 (cnt + ex))) (a' := ?_) #[true, true, true, true, true, true, true, true, false] rfl rfl (any_of HT_.out (by kernel_rfl)) (fun _ _ _ h => h) (Or.inl ⟨by rfl, ?_⟩) ?_ ?_
        · (intro w'; go_simp; rw [i64_w]; exact HE1.out)
        rotate_left; (simp only [Act.put, List.setIfInBounds_toArray, List.set_cons_zero, List.set_cons_succ, i64_w, i32_w]; rfl)
        have HC6 := Aside0.mk (HC5.out.below HBB.out)
        obtain ⟨c1, c2, c3, c4, c5, c6, c7⟩ := HC6.out.cells
        refine last_ (i := 8) (N := none) #[true, true, true, true, true, true, true, true, true] rfl rfl (one_of HT_.out (by kernel_rfl)) (by decide) (fun K hK => ?_)
        refine skip_ (w1 := ?_) (by rfl) rfl ?_ ?_
        rotate_left
        · go_simp
          rfl
        refine hK.out _ _ ?_
        clear hK K
        refine done_ (done_of HT_.out (by kernel_rfl)) ?_
        have HC7 := Aside0.mk (HC6.out.count (cnt + ex))
        clear c1 c2 c3 c4 c5 c6 c7 HC5 HC6
        generalize wn.setCell ⟨bn, 0, none⟩ (.int .i64 (cnt + ex)) = w7 at HC7 ⊢
        obtain ⟨W8, hW8⟩ : ∃ W8, w7.alloc (.cells #[.int .i64 a] 3) = W8 := ⟨_, rfl⟩
        have hb8 : Below w7.heap.size w7 W8 := hW8 ▸ below_alloc (Below.refl _ w7) _
        have hn8 : W8.cell? ⟨w7.heap.size, 0, none⟩ = some (.int .i64 a) := by
          have q : W8.heap[w7.heap.size]? = some (.cells #[.int .i64 a] 3 (0, 0)) := by rw [← hW8]; exact heap_alloc_new _ _
          exact (blk_cell q 0).trans rfl
        have HC8 := Aside0.mk (HC7.out.below hb8)
        have HN8 := Aside0.mk hn8
        obtain ⟨c1, c2, c3, c4, c5, c6, c7⟩ := HC7.out.cells
        obtain ⟨d1, d2, d3, d4, d5, d6, d7⟩ := HC8.out.cells
        clear hb8 hn8
        go_wp2_with (at_builtin; refine wp_append_q rfl (.tmp 39) (.tmp 41) rfl HC8.out.qr HC8.out.be.size (by omega) HN8.out rfl rfl rfl ?_; intro v9 w9 hq9 hg9 hat9; obtain ⟨A9, c9, hv9⟩ := hq9.form; obtain ⟨m9, hm9⟩ : ∃ m9, (next ++ [a]).length = m9 := ⟨_, rfl⟩; rw [hm9] at hv9; clear hm9; subst hv9; have HQ9 := Aside0.mk (HC8.out.queue hq9 hg9 hat9); have hfr9 : w9.frozen? ⟨bx, 0, none⟩ = false := blk_frozen ((Mods.of_grown hg9).blk HC8.out.cx (fun e => HC8.out.qr.ne HC8.out.cx (by decide) e.symm)) 0; have hcl9 : w9.cell? ⟨bx, 0, none⟩ = some v7 := (blk_cell ((Mods.of_grown hg9).blk HC8.out.cx (fun e => HC8.out.qr.ne HC8.out.cx (by decide) e.symm)) 0).trans rfl; clear d1 d2 d3 d4 d5 d6 d7 c1 c2 c3 c4 c5 c6 c7)
        go_ret
        exact ⟨rfl, _, HQ9.out⟩
    · have hg' : goodI l x = false := by simpa using hg
      have hlf : lookF l cnt seen next x = (false, cnt, seen, next) := by unfold lookF; rw [if_neg (by rw [hp]; simp), if_pos hg']
      rw [hlf]
      rw [hp] at HPT
      rw [hg'] at HGD
      clear H hp hg hg' hlf ha hat
      go_enter Try.func80, Try.ntmps80
      go_wp2_with fail
      refine (HAT.out _).mono ?_
      rintro e w1 ⟨rfl, nd, rfl⟩
      go_wp2_with fail
      refine (HPT.out _).mono ?_
      rintro e w2 ⟨rfl, nd2, rfl⟩
      have HC2 := Aside0.mk (HC.out.below (pw_below_drewN (Below.refl _ W) (nd + nd2)))
      obtain ⟨c1, c2, c3, c4, c5, c6, c7⟩ := HC2.out.cells
      go_wp2_with fail
      refine (HGD.out _ HC2.out.hp).mono ?_
      rintro e w3 ⟨rfl, nd3, rfl⟩
      have HC3 := Aside0.mk (HC.out.below (pw_below_drewN (Below.refl _ W) (nd + nd2 + nd3)))
      clear c1 c2 c3 c4 c5 c6 c7
      obtain ⟨c1, c2, c3, c4, c5, c6, c7⟩ := HC3.out.cells
      go_wp2_with fail
      refine (HGD.out _ HC3.out.hp).mono ?_
      rintro e w4 ⟨rfl, nd4, rfl⟩
      have HC4 := Aside0.mk (HC.out.below (pw_below_drewN (Below.refl _ W) (nd + nd2 + nd3 + nd4)))
      go_wp2_with fail
      go_ret
      exact ⟨rfl, v7, HC4.out⟩
  · have hp' : pointsI x = false := by simpa using hp
    have hlf : lookF l cnt seen next x = (true, cnt, seen, next) := by unfold lookF; rw [if_pos hp']
    rw [hlf]
    rw [hp'] at HPT
    clear H hp hp' hlf ha hat
    go_enter Try.func80, Try.ntmps80
    go_wp2_with fail
    refine (HAT.out _).mono ?_
    rintro e w1 ⟨rfl, nd, rfl⟩
    go_wp2_with fail
    refine (HPT.out _).mono ?_
    rintro e w2 ⟨rfl, nd2, rfl⟩
    have HC2 := Aside0.mk (HC.out.below (pw_below_drewN (Below.refl _ W) (nd + nd2)))
    go_wp2_with fail
    go_ret
    exact ⟨rfl, v7, HC2.out⟩
end Go.Proofs.YtlifdpfhepamfaaCl
namespace Go.Proofs.YtlifdpfhepamfaaCr
open Go.RowKit Go.Maps Go.Proofs.YtlifdpfhepamfaaW.PrintWords Go.Proofs.YtlifdpfhepamfaaW.PrintLast Go.Proofs.YtlifdpfhepamfaaW.PrintMore Go.Proofs.YtlifdpfhepamfaaMem Go.Proofs.YtlifdpfhepamfaaLeaf Go.Proofs.YtlifdpfhepamfaaBits Go.Proofs.Ytlifdpfhepamfaa.PHe Go.Proofs.YtlifdpfhepamfaaRow Go.Proofs.YtlifdpfhepamfaaAr Go.Proofs.YtlifdpfhepamfaaHp Go.Proofs.YtlifdpfhepamfaaHo Go.Proofs.YtlifdpfhepamfaaWd Go.Proofs.YtlifdpfhepamfaaCp Go.Proofs.YtlifdpfhepamfaaCm Go.Proofs.YtlifdpfhepamfaaQr Go.Proofs.YtlifdpfhepamfaaCl Go.Proofs
set_option linter.unusedVariables false
set_option linter.unusedSimpArgs false
/-- A look, where it is in bounds and tells true. -/
def lookG (l : List Int) (cnt : Int) (seen next : List Int) (x : Int) : Option (Int × List Int × List Int) :=
  if seen.length ≤ 100000 ∧ next.length ≤ 100000 ∧ (0 ≤ cnt ∧ cnt ≤ 1000000) ∧ (lookF l cnt seen next x).1 = true then some (lookF l cnt seen next x).2 else none
def rootsR (l : List Int) : List Int → Int → List Int → List Int → Option (Int × List Int × List Int)
  | [], cnt, seen, next => some (cnt, seen, next)
  | x :: xs, cnt, seen, next => (lookG l cnt seen next x).bind fun s => rootsR l xs s.1 s.2.1 s.2.2
def innerR (l : List Int) : Nat → Int → Int → List Int → List Int → Option (Int × List Int × List Int)
  | 0, _, cnt, seen, next => some (cnt, seen, next)
  | k + 1, p, cnt, seen, next => (lookG l cnt seen next (wordA l p)).bind fun s => innerR l k (p + 1) s.1 s.2.1 s.2.2
def bfsR (l : List Int) : Nat → Int → List Int → List Int → Option Int
  | 0, _, _, _ => none
  | k + 1, cnt, seen, next => match next with
    | [] => some cnt
    | p :: rest => if 0 ≤ p ∧ p ≤ 40000 ∧ (innerI l p).2 ≤ 40000 then (innerR l (innerI l p).2.toNat (p + (innerI l p).1) cnt seen rest).bind fun s => bfsR l k s.1 s.2.1 s.2.2 else none
theorem Rs.start {w : World} {h g gw m : Nat} {v : Value} {l : List Int} {n : Nat} {ns : List ByteArray} {B bh bs bn bx ms : Nat} {V1 V2 V3 V4 V5 : World} (H : Hp B w h g gw m v l n ns)
    (h1 : w.alloc (.cells #[.pointer (some ⟨h, 0, none⟩)] 23) = V1) (h2 : V1.alloc (.cells #[.int .i64 0] 3) = V2) (h3 : V2.alloc (.map #[] 0) = V3) (h4 : V3.alloc (.cells #[.map (some ms)] 106) = V4) (h5 : V4.alloc (.cells #[.slice none 0 0] 51) = V5)
    (e1 : w.heap.size = bh) (e2 : V1.heap.size = bn) (e3 : V2.heap.size = ms) (e4 : V3.heap.size = bs) (e5 : V4.heap.size = bx) : Rs w V5 h g gw m v l n ns B bh bs bn bx ms 0 [] [] (.slice none 0 0) := by
  have b1 : Below w.heap.size w V1 := by rw [← h1]; exact below_alloc (Below.refl _ _) _
  have b2 : Below V1.heap.size V1 V2 := by rw [← h2]; exact below_alloc (Below.refl _ _) _
  have b3 : Below V2.heap.size V2 V3 := by rw [← h3]; exact below_alloc (Below.refl _ _) _
  have b4 : Below V3.heap.size V3 V4 := by rw [← h4]; exact below_alloc (Below.refl _ _) _
  have b5 : Below V4.heap.size V4 V5 := by rw [← h5]; exact below_alloc (Below.refl _ _) _
  have s1 : V1.heap.size = w.heap.size + 1 := by rw [← h1]; exact Array.size_push _
  have s2 : V2.heap.size = V1.heap.size + 1 := by rw [← h2]; exact Array.size_push _
  have s3 : V3.heap.size = V2.heap.size + 1 := by rw [← h3]; exact Array.size_push _
  have s4 : V4.heap.size = V3.heap.size + 1 := by rw [← h4]; exact Array.size_push _
  have x1 : V1.heap[bh]? = some (.cells #[.pointer (some ⟨h, 0, none⟩)] 23 (0, 0)) := by rw [← h1, ← e1]; exact heap_alloc_new _ _
  have x2 : V2.heap[bn]? = some (.cells #[.int .i64 0] 3 (0, 0)) := by rw [← h2, ← e2]; exact heap_alloc_new _ _
  have x4 : V4.heap[bs]? = some (.cells #[.map (some ms)] 106 (0, 0)) := by rw [← h4, ← e4]; exact heap_alloc_new _ _
  have x5 : V5.heap[bx]? = some (.cells #[.slice none 0 0] 51 (0, 0)) := by rw [← h5, ← e5]; exact heap_alloc_new _ _
  have x3 : V3.ownsMap (H := Unit) Try.prog 3 (plainElem Try.prog 4) ms 0 (.map []) := by rw [← h3, ← e3]; exact World.ownsMap_made V2 Try.prog _ _
  have c35 := (Mods.of_below (fun _ => False) b4).trans (Mods.of_below (fun _ => False) b5)
  have c25 := (Mods.of_below (fun _ => False) b3).trans c35
  have c15 := (Mods.of_below (fun _ => False) b2).trans c25
  have c45 := Mods.of_below (fun _ => False) b5
  have c05 : Below w.heap.size w V5 := below_mods b1 c15 b1.size (fun _ hk => hk.elim)
  exact ⟨H.below c05, fun k hk => (H.foot k hk).2, c15.blk x1 id, c45.blk x4 id, c25.blk x2 id, x5, ⟨.map [], owns_mods x3 c35 id, DS.nil⟩, .inl ⟨rfl, rfl⟩, by simp [Value.ownBlock], ⟨by omega, by omega, by omega, by omega, by omega⟩, c05⟩
theorem Rs.cut {w W : World} {h g gw m : Nat} {v : Value} {l : List Int} {n : Nat} {ns : List ByteArray} {B bh bs bn bx ms : Nat} {cnt : Int} {seen rest : List Int} {p : Int} {gq oq cq : Nat} {v8 : Value} (H : Rs w W h g gw m v l n ns B bh bs bn bx ms cnt seen (p :: rest) (.slice (some ⟨gq, oq, none⟩) (rest.length + 1) cq))
    (h8 : (cq = 1 ∧ v8 = .slice (some ⟨gq, oq, none⟩) rest.length 0) ∨ v8 = .slice (some ⟨gq, oq + 1, none⟩) rest.length (cq - 1)) : Rs w (W.setCell ⟨bx, 0, none⟩ v8) h g gw m v l n ns B bh bs bn bx ms cnt seen rest v8 := by
  refine Rs.queue H ?_ ⟨rfl, rfl, rfl, Nat.le_refl _, fun _ _ _ => rfl⟩ (.inl ?_)
  · rcases H.qr with ⟨_, hnil⟩ | ⟨g1, o1, c1, cur, hv, h1, h2, h3, h4, h5, h6⟩
    · cases hnil
    · simp only [Value.slice.injEq, Option.some.injEq, Addr.mk.injEq, and_true, true_and, List.length_cons] at hv
      obtain ⟨⟨rfl, rfl⟩, rfl⟩ := hv
      rw [List.length_cons] at h3
      rcases h8 with ⟨rfl, rfl⟩ | rfl
      · exact .inr ⟨gq, oq, 0, cur, rfl, h1, h2, by omega, by unfold maxLen; omega, by omega, fun j hj => by omega⟩
      · refine .inr ⟨gq, oq + 1, cq - 1, cur, rfl, h1, h2, by omega, by omega, by omega, fun j hj => ?_⟩
        have := h6 (j + 1) (by simp; omega)
        rw [show oq + (j + 1) = oq + 1 + j by omega] at this
        rw [this]
        simp
  · rcases h8 with ⟨_, rfl⟩ | rfl <;> rfl
theorem lookG_eq {l : List Int} {cnt : Int} {seen next : List Int} {x : Int} {s : Int × List Int × List Int} (h : lookG l cnt seen next x = some s) : seen.length ≤ 100000 ∧ next.length ≤ 100000 ∧ (0 ≤ cnt ∧ cnt ≤ 1000000) ∧ lookF l cnt seen next x = (true, s) := by
  unfold lookG at h
  split at h
  · rename_i hc
    injection h with h
    refine ⟨hc.1, hc.2.1, hc.2.2.1, ?_⟩
    rw [← h, ← hc.2.2.2]
  · cases h
set_option maxHeartbeats 8000000 in
set_option maxRecDepth 100000 in
theorem reach_calls (w : World) (h g gw m : Nat) (v : Value) (l : List Int) (n : Nat) (ns : List ByteArray) (B : Nat) (A : Option Addr) (c : Nat) (roots : List Int) (H : Hp B w h g gw m v l n ns) (hr : ReadsInt w .u64 A roots.length roots) (hc : roots.length ≤ c) (hw : W64 roots) (hl : roots.length ≤ 100000)
    (c1 : Int) (s1 n1 : List Int) (fuel : Nat) (r : Int) (h1 : rootsR l roots 0 [] [] = some (c1, s1, n1)) (h2 : bfsR l fuel c1 s1 n1 = some r) :
    Calls Try.prog 34 #[.pointer (some ⟨h, 0, none⟩), .slice A roots.length c] w fun e w' => e = .returned (.int .i64 r) ∧ Below w.heap.size w w' := by
  have hmm := @run_makeMap Try.prog
  obtain ⟨len, hlen⟩ : ∃ len, roots.length = len := ⟨_, rfl⟩
  have HH := Aside0.mk H
  have HR := Aside0.mk hr
  have HW := Aside0.mk hw
  have H1 := Aside0.mk h1
  have H2 := Aside0.mk h2
  have HLEN := Aside0.mk hlen
  have HLN := Aside0.mk (And.intro H.ar.2.2.1 H.ar.2.2.2)
  rw [hlen] at hl hc HR ⊢
  clear hr hw h1 h2 hlen H
  go_enter Try.func34, Try.ntmps34
  go_wp2_with fail
  clear hmm
  obtain ⟨bh, e1⟩ : ∃ bh, w.heap.size = bh := ⟨_, rfl⟩
  rw [e1]
  obtain ⟨bn, e2⟩ : ∃ bn, bh + 1 = bn := ⟨_, rfl⟩
  rw [e2]
  obtain ⟨ms, e3⟩ : ∃ ms, bn + 1 = ms := ⟨_, rfl⟩
  rw [e3]
  obtain ⟨bs, e4⟩ : ∃ bs, ms + 1 = bs := ⟨_, rfl⟩
  rw [e4]
  obtain ⟨bx, e5⟩ : ∃ bx, bs + 1 = bx := ⟨_, rfl⟩
  rw [e5]
  obtain ⟨V1, hV1⟩ : ∃ V1, w.alloc (.cells #[.pointer (some ⟨h, 0, none⟩)] 23) = V1 := ⟨_, rfl⟩
  rw [hV1]
  obtain ⟨V2, hV2⟩ : ∃ V2, V1.alloc (.cells #[.int .i64 0] 3) = V2 := ⟨_, rfl⟩
  rw [hV2]
  obtain ⟨V3, hV3⟩ : ∃ V3, V2.alloc (.map #[] 0) = V3 := ⟨_, rfl⟩
  rw [hV3]
  obtain ⟨V4, hV4⟩ : ∃ V4, V3.alloc (.cells #[.map (some ms)] 106) = V4 := ⟨_, rfl⟩
  rw [hV4]
  obtain ⟨V5, hV5⟩ : ∃ V5, V4.alloc (.cells #[.slice none 0 0] 51) = V5 := ⟨_, rfl⟩
  rw [hV5]
  have z1 : V1.heap.size = bn := by rw [← hV1, ← e2, ← e1]; exact Array.size_push _
  have z2 : V2.heap.size = ms := by rw [← hV2, ← e3, ← z1]; exact Array.size_push _
  have z3 : V3.heap.size = bs := by rw [← hV3, ← e4, ← z2]; exact Array.size_push _
  have z4 : V4.heap.size = bx := by rw [← hV4, ← e5, ← z3]; exact Array.size_push _
  have HS := Aside0.mk (Rs.start HH.out hV1 hV2 hV3 hV4 hV5 e1 z1 z2 z3 z4)
  clear e1 e2 e3 e4 e5 z1 z2 z3 z4 hV1 hV2 hV3 hV4 hV5
  go_loopg [19] len (fun q v19 wr => ∃ (i : Nat) (ct : Int) (sn nx : List Int) (v7 : Value), q = len - i ∧ i ≤ len ∧ v19 = .int .i64 i ∧ Aside0 (Rs w wr h g gw m v l n ns B bh bs bn bx ms ct sn nx v7) ∧ Aside0 (rootsR l (roots.drop i) ct sn nx = some (c1, s1, n1)))
  case atStart => exact ⟨0, 0, [], [], .slice none 0 0, by omega, by omega, rfl, HS, ⟨H1.out⟩⟩
  case round =>
    obtain ⟨i, ct, sn, nx, v7, rfl, hi, rfl, HC, HF⟩ := hrel
    by_cases hlt : i < len
    · have b1 : (i : Int) < (len : Int) := by omega
      obtain ⟨ad, eA, hcell⟩ := read_at (reads_mods HR.out (Mods.of_below (fun _ => False) HC.out.be) (fun _ _ => id)) i hlt
      subst eA
      have hdr : roots.drop i = roots.getD i 0 :: roots.drop (i + 1) := by
        have := HLEN.out
        rw [List.drop_eq_getElem_cons (by omega), List.getD_eq_getElem?_getD, List.getElem?_eq_getElem (by omega)]
        rfl
      have hf := HF.out
      rw [hdr] at hf
      have hbd := HW.out.getD i
      generalize roots.getD i 0 = x at hcell hf hbd
      simp only [rootsR] at hf
      replace hf := Option.bind_eq_some_iff.mp hf
      obtain ⟨s, hg1, hg2⟩ := hf
      obtain ⟨q1, q2, q3, q4⟩ := lookG_eq hg1
      have hlk := look_calls w wr h g gw m v l n ns B bh bs bn bx ms ct sn nx v7 x HC.out hbd.1 hbd.2 q1 q2 q3
      rw [q4] at hlk
      have HLK := Aside0.mk hlk
      have HF2 := Aside0.mk hg2
      obtain ⟨sa, sb, sc⟩ := s
      clear hdr hbd hg1 hg2 q1 q2 q3 q4 hlk HF HC
      go_wp2_with fail
      refine HLK.out.mono ?_
      rintro e w2 ⟨rfl, v8, hc2⟩
      have HC2 := Aside0.mk hc2
      clear hc2 HLK
      go_wp2_with fail
      go_roundg (len - (i + 1))
      case measure => omega
      case rel => exact ⟨i + 1, sa, sb, sc, v8, rfl, by omega, by go_num, HC2, HF2⟩
    · obtain rfl : i = len := by omega
      have b1 : ¬ (i : Int) < (i : Int) := by omega
      have hf := HF.out
      rw [List.drop_eq_nil_of_le (by have := HLEN.out; omega)] at hf
      simp only [rootsR, Option.some.injEq, Prod.mk.injEq] at hf
      obtain ⟨rfl, rfl, rfl⟩ := hf
      clear HF H1 HS
      go_wp2_with fail
      go_loopg [11] fuel (fun q v11 wb => ∃ (ct : Int) (sn nx : List Int) (v7 : Value), Aside0 (Rs w wb h g gw m v l n ns B bh bs bn bx ms ct sn nx v7) ∧ Aside0 (bfsR l q ct sn nx = some r))
      case atStart => exact ⟨ct, sn, nx, v7, HC, H2⟩
      case round =>
        obtain ⟨c4, s4, n4, v4, HC4, HF4⟩ := hrel
        cases gk with
        | zero => exact absurd HF4.out (by simp [bfsR])
        | succ k1 =>
          have hf := HF4.out
          obtain ⟨d1, d2, d3, d4, d5, d6, d7⟩ := HC4.out.cells
          cases n4 with
          | nil =>
            simp only [bfsR, Option.some.injEq] at hf
            subst hf
            obtain ⟨A4, k4, hv4⟩ := HC4.out.qr.form
            subst hv4
            have HBE := Aside0.mk HC4.out.be
            go_wp2_with fail
            go_ret
            exact ⟨rfl, HBE.out⟩
          | cons p rest =>
            simp only [bfsR] at hf
            have hpc : 0 ≤ p ∧ p ≤ 40000 ∧ (innerI l p).2 ≤ 40000 := by
              by_cases hq : 0 ≤ p ∧ p ≤ 40000 ∧ (innerI l p).2 ≤ 40000
              · exact hq
              · rw [if_neg hq] at hf; cases hf
            rw [if_pos hpc] at hf
            replace hf := Option.bind_eq_some_iff.mp hf
            obtain ⟨s, hin, hbf⟩ := hf
            have HIN := Aside0.mk hin
            have HBF := Aside0.mk hbf
            have hq4 := HC4.out.qr
            rcases hq4 with ⟨_, hnil⟩ | ⟨gq, oq, cq, cur, hv, hq1, hq2, hq3, hq4, hq5, hq6⟩
            · cases hnil
            · subst hv
              have hcell : wr.cell? ⟨gq, oq, none⟩ = some (.int .i64 p) := by
                rw [show wr.cell? ⟨gq, oq, none⟩ = cur[oq]? by simp [World.cell?, hq2]]
                have := hq6 0 (by simp)
                simpa using this
              rw [List.length_cons] at hq3 hq6 d4
              have hrl : rest.length + 1 ≤ cq := hq3
              clear hin hbf HF4 hq6
              have HSC := Aside0.mk hpc
              have HNN := Aside0.mk (fun W5 (ha : Ar W5 g gw l n) => inner_calls W5 g gw n l p ha)
              have hpl : 0 ≤ p ∧ p ≤ 40000 := ⟨hpc.1, hpc.2.1⟩
              have hcnt := hpc.2.2
              have hin1 : (innerI l p).1 = 0 ∨ (innerI l p).1 = 1 ∨ (innerI l p).1 = 2 := by
                unfold innerI
                split
                · split
                  · exact .inr (.inl rfl)
                  · split
                    · exact .inr (.inl rfl)
                    · split
                      · exact .inr (.inr rfl)
                      · exact .inr (.inl rfl)
                · exact .inl rfl
              generalize innerI l p = fi at HNN HIN hin1 hcnt
              obtain ⟨fr, cn⟩ := fi
              obtain ⟨s1, s2, s3⟩ := s
              simp only at HNN HIN hin1 hcnt HBF
              clear HSC hpc
              obtain ⟨k, rfl⟩ : ∃ k, cq = k + 1 := ⟨cq - 1, by omega⟩
              have hfr0 : 0 ≤ fr ∧ fr ≤ 2 := by omega
              clear hin1
              have HC5 : Aside0 (∀ v8, ((k + 1 = 1 ∧ v8 = .slice (some ⟨gq, oq, none⟩) rest.length 0) ∨ v8 = .slice (some ⟨gq, oq + 1, none⟩) rest.length (k + 1 - 1)) → Rs w (wr.setCell ⟨bx, 0, none⟩ v8) h g gw m v l n ns B bh bs bn bx ms c4 s4 rest v8) := ⟨fun v8 h8 => Rs.cut HC4.out h8⟩
              clear HC4 d5 d1 d2 d3 hq4 hq5 hq1
              have hrest : k = 0 → rest = [] := fun e => List.eq_nil_of_length_eq_zero (by omega)
              cases k with
              | zero =>
                obtain rfl := hrest rfl
                go_upto_region 14 with (fail)
                have hq := HC5.out (.slice (some ⟨gq, oq, none⟩) 0 0) (.inl ⟨rfl, rfl⟩)
                generalize wr.setCell ⟨bx, 0, none⟩ (.slice (some ⟨gq, oq, none⟩) 0 0) = w5 at hq ⊢
                generalize (Value.slice (some ⟨gq, oq, none⟩) 0 0) = v8 at hq ⊢
                have HC6 := Aside0.mk hq
                obtain ⟨d1, d2, d3, d4_, d5, d6_, d7_⟩ := hq.cells
                have HN5 := Aside0.mk (HNN.out w5 hq.hp.ar)
                clear hq HC5 HNN d2 d3 d4_ d6_ d7_
                go_wp2_with fail
                refine HN5.out.mono ?_
                rintro e w6 ⟨rfl, nd6, rfl⟩
                have HC7 := Aside0.mk (HC6.out.below (pw_below_drewN (Below.refl _ w5) nd6))
                clear HN5 HC6 d1 d5
                go_wp2_with fail
                go_loopg [46] cn.toNat (fun q v46 wi => ∃ (j : Nat) (ct : Int) (sn nx : List Int) (v7 : Value), q = cn.toNat - j ∧ j ≤ cn.toNat ∧ v46 = .int .i64 j ∧ Aside0 (Rs w wi h g gw m v l n ns B bh bs bn bx ms ct sn nx v7) ∧ Aside0 (innerR l (cn.toNat - j) (p + fr + (j : Int)) ct sn nx = some (s1, s2, s3)))
                case atStart => exact ⟨0, c4, s4, _, v8, by omega, by omega, rfl, HC7, ⟨by have := HIN.out; simpa using this⟩⟩
                case round =>
                  obtain ⟨j, c9, s9, n9, v9, rfl, hj, rfl, HC8, HF8⟩ := hrel
                  by_cases hjl : j < cn.toNat
                  · have b1 : (j : Int) < cn := by omega
                    have hf8 := HF8.out
                    obtain ⟨kk, hkk⟩ : ∃ kk, cn.toNat - j = kk + 1 := ⟨cn.toNat - j - 1, by omega⟩
                    rw [hkk] at hf8
                    simp only [innerR] at hf8
                    replace hf8 := Option.bind_eq_some_iff.mp hf8
                    have HWD := Aside0.mk (word_calls wr g gw n l (p + fr + (j : Int)) HC8.out.hp.ar)
                    have hbd := wordA_bd HLN.out.2.2 (p + fr + (j : Int))
                    generalize wordA l (p + fr + (j : Int)) = x at HWD hbd hf8
                    obtain ⟨s, hg1, hg2⟩ := hf8
                    obtain ⟨q1, q2, q3, q4⟩ := lookG_eq hg1
                    have HLK := Aside0.mk (fun nd => q4 ▸ look_calls w (wr.drewN nd) h g gw m v l n ns B bh bs bn bx ms c9 s9 n9 v9 x (HC8.out.below (pw_below_drewN (Below.refl _ wr) nd)) hbd.1 hbd.2 q1 q2 q3)
                    have HF9 := Aside0.mk hg2
                    have HKK := Aside0.mk hkk
                    obtain ⟨sa, sb, sc⟩ := s
                    obtain ⟨d1, d2, d3, d4_, d5, d6_, d7_⟩ := HC8.out.cells
                    have hj4 : (j : Int) ≤ 40000 := by omega
                    clear hg1 hg2 hkk q1 q2 q3 q4 hbd HF8 d2 d3 d4_ d6_ d7_
                    go_wp2_with fail
                    refine HWD.out.mono ?_
                    rintro e w9 ⟨rfl, nd9, rfl⟩
                    go_wp2_with fail
                    refine (HLK.out nd9).mono ?_
                    rintro e w2 ⟨rfl, v8, hc2⟩
                    have HC9 := Aside0.mk hc2
                    clear hc2 HLK HWD
                    go_wp2_with fail
                    go_roundg (cn.toNat - (j + 1))
                    case measure => omega
                    case rel => exact ⟨j + 1, sa, sb, sc, v8, rfl, by omega, by go_num, HC9, ⟨by have h6 := HF9.out; have h7 := HKK.out; rw [show cn.toNat - (j + 1) = kk by omega, show p + fr + ((j + 1 : Nat) : Int) = p + fr + (j : Int) + 1 by omega]; exact h6⟩⟩
                  · have b1 : ¬ (j : Int) < cn := by omega
                    have hf8 := HF8.out
                    rw [show cn.toNat - j = 0 by omega] at hf8
                    simp only [innerR, Option.some.injEq, Prod.mk.injEq] at hf8
                    obtain ⟨rfl, rfl, rfl⟩ := hf8
                    clear HF8
                    go_wp2_with fail
                    go_roundg k1
                    case measure => omega
                    case rel => exact ⟨_, _, _, v9, HC8, HBF⟩
              | succ k =>
                clear hrest
                go_upto_region 14 with (fail)
                have hq := HC5.out (.slice (some ⟨gq, oq + 1, none⟩) rest.length (k + 1)) (.inr rfl)
                generalize wr.setCell ⟨bx, 0, none⟩ (.slice (some ⟨gq, oq + 1, none⟩) rest.length (k + 1)) = w5 at hq ⊢
                generalize (Value.slice (some ⟨gq, oq + 1, none⟩) rest.length (k + 1)) = v8 at hq ⊢
                have HC6 := Aside0.mk hq
                obtain ⟨d1, d2, d3, d4_, d5, d6_, d7_⟩ := hq.cells
                have HN5 := Aside0.mk (HNN.out w5 hq.hp.ar)
                clear hq HC5 HNN d2 d3 d4_ d6_ d7_
                go_wp2_with fail
                refine HN5.out.mono ?_
                rintro e w6 ⟨rfl, nd6, rfl⟩
                have HC7 := Aside0.mk (HC6.out.below (pw_below_drewN (Below.refl _ w5) nd6))
                clear HN5 HC6 d1 d5
                go_wp2_with fail
                go_loopg [46] cn.toNat (fun q v46 wi => ∃ (j : Nat) (ct : Int) (sn nx : List Int) (v7 : Value), q = cn.toNat - j ∧ j ≤ cn.toNat ∧ v46 = .int .i64 j ∧ Aside0 (Rs w wi h g gw m v l n ns B bh bs bn bx ms ct sn nx v7) ∧ Aside0 (innerR l (cn.toNat - j) (p + fr + (j : Int)) ct sn nx = some (s1, s2, s3)))
                case atStart => exact ⟨0, c4, s4, _, v8, by omega, by omega, rfl, HC7, ⟨by have := HIN.out; simpa using this⟩⟩
                case round =>
                  obtain ⟨j, c9, s9, n9, v9, rfl, hj, rfl, HC8, HF8⟩ := hrel
                  by_cases hjl : j < cn.toNat
                  · have b1 : (j : Int) < cn := by omega
                    have hf8 := HF8.out
                    obtain ⟨kk, hkk⟩ : ∃ kk, cn.toNat - j = kk + 1 := ⟨cn.toNat - j - 1, by omega⟩
                    rw [hkk] at hf8
                    simp only [innerR] at hf8
                    replace hf8 := Option.bind_eq_some_iff.mp hf8
                    have HWD := Aside0.mk (word_calls wr g gw n l (p + fr + (j : Int)) HC8.out.hp.ar)
                    have hbd := wordA_bd HLN.out.2.2 (p + fr + (j : Int))
                    generalize wordA l (p + fr + (j : Int)) = x at HWD hbd hf8
                    obtain ⟨s, hg1, hg2⟩ := hf8
                    obtain ⟨q1, q2, q3, q4⟩ := lookG_eq hg1
                    have HLK := Aside0.mk (fun nd => q4 ▸ look_calls w (wr.drewN nd) h g gw m v l n ns B bh bs bn bx ms c9 s9 n9 v9 x (HC8.out.below (pw_below_drewN (Below.refl _ wr) nd)) hbd.1 hbd.2 q1 q2 q3)
                    have HF9 := Aside0.mk hg2
                    have HKK := Aside0.mk hkk
                    obtain ⟨sa, sb, sc⟩ := s
                    obtain ⟨d1, d2, d3, d4_, d5, d6_, d7_⟩ := HC8.out.cells
                    have hj4 : (j : Int) ≤ 40000 := by omega
                    clear hg1 hg2 hkk q1 q2 q3 q4 hbd HF8 d2 d3 d4_ d6_ d7_
                    go_wp2_with fail
                    refine HWD.out.mono ?_
                    rintro e w9 ⟨rfl, nd9, rfl⟩
                    go_wp2_with fail
                    refine (HLK.out nd9).mono ?_
                    rintro e w2 ⟨rfl, v8, hc2⟩
                    have HC9 := Aside0.mk hc2
                    clear hc2 HLK HWD
                    go_wp2_with fail
                    go_roundg (cn.toNat - (j + 1))
                    case measure => omega
                    case rel => exact ⟨j + 1, sa, sb, sc, v8, rfl, by omega, by go_num, HC9, ⟨by have h6 := HF9.out; have h7 := HKK.out; rw [show cn.toNat - (j + 1) = kk by omega, show p + fr + ((j + 1 : Nat) : Int) = p + fr + (j : Int) + 1 by omega]; exact h6⟩⟩
                  · have b1 : ¬ (j : Int) < cn := by omega
                    have hf8 := HF8.out
                    rw [show cn.toNat - j = 0 by omega] at hf8
                    simp only [innerR, Option.some.injEq, Prod.mk.injEq] at hf8
                    obtain ⟨rfl, rfl, rfl⟩ := hf8
                    clear HF8
                    go_wp2_with fail
                    go_roundg k1
                    case measure => omega
                    case rel => exact ⟨_, _, _, v9, HC8, HBF⟩
end Go.Proofs.YtlifdpfhepamfaaCr
