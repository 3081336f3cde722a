/- The heap: objects, boxes, numbers. -/
import Derived.Test.YtlifdpfhepamfaaHp
import Derived.Test.YtlifdpfhepamfaaHn
import Derived.Test.YtlifdpfhepamfaaRowK
namespace Go.Proofs.YtlifdpfhepamfaaHo
open Go.RowKit Go.Maps Go.Proofs.YtlifdpfhepamfaaW.PrintWords Go.Proofs.YtlifdpfhepamfaaW.PrintLast Go.Proofs.YtlifdpfhepamfaaW.PrintMore Go.Proofs.YtlifdpfhepamfaaMem Go.Proofs.YtlifdpfhepamfaaLeaf Go.Proofs.YtlifdpfhepamfaaBits Go.Proofs.Ytlifdpfhepamfaa.PHe Go.Proofs.YtlifdpfhepamfaaRow Go.Proofs.YtlifdpfhepamfaaAr Go.Proofs.YtlifdpfhepamfaaHp Go.Proofs.YtlifdpfhepamfaaHn Go.Proofs
set_option linter.unusedVariables false
set_option linter.unusedSimpArgs false
theorem info64 : (Try.prog.info? 25).map (fun i => (i.zero, i.size, i.bytes)) = some (some (.int .u64 0), 1, 8) := by kernel_rfl
theorem add_block (a : Addr) (n : Nat) : (a.add n).block = a.block := by unfold Addr.add; split <;> rfl
theorem mods_cell_ {S : Nat → Prop} {w w' : World} {p : Addr} {u : Value} (k : Mods S w w') (hn : ¬ S p.block) (h : w.cell? p = some u) : w'.cell? p = some u := by
  have hb := World.block_lt_of_cell? w p h
  have := k.block p.block hb hn
  unfold World.cell? at h ⊢
  rw [this]
  exact h
/-- The used words while an object is laid. -/
def midL (l ws : List Int) (i : Nat) : List Int := l ++ (ws.take i ++ List.replicate (ws.length - i) 0)
theorem midL_zero (l ws : List Int) : midL l ws 0 = l ++ List.replicate ws.length 0 := by simp [midL]
theorem midL_all (l ws : List Int) : midL l ws ws.length = l ++ ws := by simp [midL]
theorem midL_succ (l ws : List Int) (i : Nat) (hi : i < ws.length) : setA (midL l ws i) ((l.length + i : Nat) : Int) (ws.getD i 0) = midL l ws (i + 1) := by
  have hlen : (midL l ws i).length = l.length + ws.length := by simp [midL]; omega
  unfold setA
  rw [if_pos (by rw [hlen]; omega), Int.toNat_natCast]
  unfold midL
  rw [List.set_append_right _ _ (by omega), show l.length + i - l.length = i by omega, List.set_append_right _ _ (by simp; omega)]
  have h1 : i - (ws.take i).length = 0 := by simp; omega
  rw [h1]
  obtain ⟨k, hk⟩ : ∃ k, ws.length - i = k + 1 := ⟨ws.length - i - 1, by omega⟩
  rw [hk, List.replicate_succ, List.set_cons_zero, show ws.length - (i + 1) = k by omega]
  have h2 : ws.take (i + 1) = ws.take i ++ [ws.getD i 0] := by
    rw [List.take_add_one, List.getElem?_eq_getElem hi, List.getD_eq_getElem?_getD, List.getElem?_eq_getElem hi]
    rfl
  rw [h2]
  simp
/-- A word that leads to a place. -/
def ptrW (tag : Int) (at_ : Nat) : Int := (at_ : Int) * 4 + tag
theorem ptrW_eq (tag : Int) (at_ : Nat) (ht : tag = 1 ∨ tag = 2) (ha : at_ ≤ 32768) : word_Pointer.f tag (at_ : Int) = some (ptrW tag at_) := by
  have h1 : word_cut.f (at_ : Int) = some (at_ : Int) := by
    unfold word_cut.f mx mn
    congr 1
    split <;> split <;> omega
  unfold word_Pointer.f
  rw [h1, bindS]
  have h2 : IntKind.u64.wrap (Go.bits .and .i64 tag 3) = tag := by rcases ht with rfl | rfl <;> rfl
  rw [h2, wrap_u64, show (at_ : Int) * 4 % 18446744073709551616 = (at_ : Int) * 4 by omega, or_join 2 ((at_ : Int) * 4) tag (by omega) (by omega) (by omega) (by omega) (by omega) (by omega)]
  rfl
/-- A head. -/
def headW (kind : Int) (size : Nat) : Int := (size : Int) * 64 + kind * 4
theorem headW_eq (kind : Int) (size : Nat) (hk : 0 ≤ kind ∧ kind < 16) (hs : size ≤ 1000000) : word_Head.f kind (size : Int) = some (headW kind size) := by
  have h1 : word_cut.f (size : Int) = some (size : Int) := by
    unfold word_cut.f mx mn
    congr 1
    split <;> split <;> omega
  unfold word_Head.f
  rw [h1, bindS]
  have h2 : Go.bits .and .i64 kind 15 = kind := by
    have : kind = 0 ∨ kind = 1 ∨ kind = 2 ∨ kind = 3 ∨ kind = 4 ∨ kind = 5 ∨ kind = 6 ∨ kind = 7 ∨ kind = 8 ∨ kind = 9 ∨ kind = 10 ∨ kind = 11 ∨ kind = 12 ∨ kind = 13 ∨ kind = 14 ∨ kind = 15 := by omega
    rcases this with rfl | rfl | rfl | rfl | rfl | rfl | rfl | rfl | rfl | rfl | rfl | rfl | rfl | rfl | rfl | rfl <;> rfl
  rw [h2, wrap_u64, wrap_u64, wrap_u64, show (size : Int) * 64 % 18446744073709551616 = (size : Int) * 64 by omega, show kind % 18446744073709551616 = kind by omega, show kind * 4 % 18446744073709551616 = kind * 4 by omega,
    or_join 6 ((size : Int) * 64) (kind * 4) (by omega) (by omega) (by omega) (by omega) (by omega) (by omega)]
  rfl
/-- The arena's words are others. -/
theorem arena {B : Nat} {w w' : World} {h g gw m : Nat} {v : Value} {l l' : List Int} {n : Nat} {ns : List ByteArray} (H : Hp B w h g gw m v l n ns) (ha : Ar w' g gw l' n) (k : Mods (fun i => i = g ∨ i = gw) w w') : Hp B w' h g gw m v l' n ns ∧ Mods (SH h g gw m v) w w' := by
  obtain ⟨n1, n2, n3, n4, n5⟩ := H.ne_h
  obtain ⟨m1, m2, m3, m4⟩ := H.ne_m
  obtain ⟨D, h1, h2⟩ := H.mp
  refine ⟨⟨k.blk H.hb (by rintro (e | e); exact n1 e; exact n2 e), ha, H.row.mods k (fun i hi => by rintro (e | e); exact n4 (by rw [hi, e]); exact n5 (by rw [hi, e])), ⟨D, owns_mods h1 k (by rintro (e | e); exact m2 e.symm; exact m3 e.symm), h2⟩, H.nd, H.sz, H.few, H.lo.1, H.lo.2.1, H.lo.2.2.1, H.lo.2.2.2.1, Nat.le_trans H.lo.2.2.2.2 k.size⟩, k.mono (fun i hi => ?_)⟩
  rcases hi with e | e
  · exact .inr (.inl e)
  · exact .inr (.inr (.inl e))
/-- What an object's laying leaves. -/
def objL (l : List Int) (n : Nat) (ws : List Int) : List Int := if ws.length ≤ n - l.length then l ++ ws else l
def objR (tag : Int) (l : List Int) (n : Nat) (ws : List Int) : Int × Bool := if ws.length ≤ n - l.length then (ptrW tag l.length, true) else (0, false)
set_option maxHeartbeats 4000000 in
set_option maxRecDepth 100000 in
theorem object_calls (w : World) (B h g gw m : Nat) (v : Value) (l : List Int) (n : Nat) (ns : List ByteArray) (tag : Int) (A : Option Addr) (c : Nat) (ws : List Int) (H : Hp B w h g gw m v l n ns) (ht : tag = 1 ∨ tag = 2)
    (hr : ReadsInt w .u64 A ws.length ws) (hc : ws.length ≤ c) (hna : ∀ ad, A = some ad → ad.block ≠ g ∧ ad.block ≠ gw) (hw : W64 ws) :
    Calls Try.prog 116 #[.pointer (some ⟨h, 0, none⟩), .int .i64 tag, .slice A ws.length c] w fun e w' => e = .returned (.tuple #[.int .u64 (objR tag l n ws).1, .bool (objR tag l n ws).2]) ∧ Hp B w' h g gw m v (objL l n ws) n ns ∧ Mods (SH h g gw m v) w w' := by
  obtain ⟨c0, c1, c2, f1⟩ := H.cells
  have HH := Aside0.mk H
  have hn : n ≤ 32768 := H.ar.2.2.2.1
  have hl : l.length ≤ n := H.ar.2.2.1
  have HA := Aside0.mk (alloc_calls w g gw n l (ws.length : Nat) H.ar)
  have HR := Aside0.mk hr
  have HNA := Aside0.mk hna
  have HW := Aside0.mk hw
  have HC := Aside0.mk hc
  by_cases hroom : ws.length ≤ n - l.length
  · have e1 : objL l n ws = l ++ ws := by unfold objL; rw [if_pos hroom]
    have e2 : objR tag l n ws = (ptrW tag l.length, true) := by unfold objR; rw [if_pos hroom]
    have ok : okA l n (ws.length : Nat) = true := by unfold okA; simp; omega
    have ra : resA l n (ws.length : Nat) = midL l ws 0 := by unfold resA; rw [ok, if_pos rfl, midL_zero, Int.toNat_natCast]
    have aa : atA l n (ws.length : Nat) = (l.length : Nat) := by unfold atA; rw [ok, if_pos rfl]
    rw [ok, ra, aa] at HA
    rw [e1, e2]
    have HP := Aside0.mk (fun W => word_Pointer.calls tag (l.length : Int) _ W (ptrW_eq tag l.length ht (by omega)))
    obtain ⟨k, hk⟩ : ∃ k, ws.length = k := ⟨_, rfl⟩
    have HK := Aside0.mk hk
    rw [hk] at HA HR hroom HC ⊢
    clear H e1 e2 ok ra aa hr hc hna hw hk
    go_enter Try.func116, Try.ntmps116
    go_wp2_with fail
    refine HA.out.mono ?_
    rintro e w1 ⟨rfl, ha, hm⟩
    have HH1 := Aside0.mk (And.intro ha (hm.mono (S' := fun i => i = g ∨ i = gw) (fun i hi => .inl hi)))
    clear ha hm HA c0 c1 c2 f1
    go_wp2_with fail
    go_loopg [26] k (fun q v26 wr => ∃ i : Nat, q = k - i ∧ i ≤ k ∧ v26 = .int .i64 i ∧ Aside0 (Ar wr g gw (midL l ws i) n ∧ Mods (fun i => i = g ∨ i = gw) w wr))
    case atStart => exact ⟨0, by omega, by omega, rfl, HH1⟩
    case round =>
      obtain ⟨i, rfl, hi, rfl, HR1⟩ := hrel
      by_cases hlt : i < k
      · have b1 : (i : Int) < (k : Int) := by omega
        obtain ⟨ad, ea, hcell⟩ := HR.out.at_ (i : Int) (by omega) (by omega)
        subst ea
        rw [Int.toNat_natCast, show rd ws (i : Int) = ws.getD i 0 from by unfold rd; rw [Int.toNat_natCast]] at hcell
        have hna := HNA.out ad rfl
        have hcw : wr.cell? (ad.add i) = some (.int .u64 (ws.getD i 0)) := mods_cell_ HR1.out.2 (by rintro (e | e); exact hna.1 (by rw [← e, add_block]); exact hna.2 (by rw [← e, add_block])) hcell
        have hwb := HW.out.getD i
        have hsucc := midL_succ l ws i (by rw [HK.out]; omega)
        rw [Int.natCast_add] at hsucc
        have hs0 := set_calls wr g gw n (midL l ws i) ((l.length : Int) + (i : Int)) (ws.getD i 0) HR1.out.1 hwb.1 hwb.2
        rw [hsucc] at hs0
        have HS := Aside0.mk hs0
        obtain ⟨d0, d1, d2, e1⟩ := (arena HH.out HR1.out.1 HR1.out.2).1.cells
        have ei : wrap64 ((l.length : Int) + (i : Int)) = (l.length : Int) + (i : Int) := by unfold wrap64; omega
        generalize ws.getD i 0 = x at hcw HS
        clear hcell hs0 hsucc hna hwb
        go_wp2_with fail
        refine HS.out.mono ?_
        rintro e w2 ⟨rfl, ha, hm⟩
        have HR2 := Aside0.mk (And.intro ha (HR1.out.2.trans (hm.mono (S' := fun i => i = g ∨ i = gw) (fun i hi => .inr hi))))
        clear ha hm d0 d1 d2 e1
        go_wp2_with fail
        go_roundg (k - (i + 1))
        case measure => omega
        case rel => exact ⟨i + 1, rfl, by omega, by go_num, HR2⟩
      · obtain rfl : i = k := by omega
        have b1 : ¬ (i : Int) < (i : Int) := by omega
        have HF := Aside0.mk (arena HH.out HR1.out.1 HR1.out.2)
        have hall : midL l ws i = l ++ ws := by rw [← HK.out]; exact midL_all l ws
        rw [hall] at HF
        clear HR1 hall
        go_wp2_with fail
        refine (HP.out _).mono ?_
        rintro e w2 ⟨rfl, hb⟩
        have HB2 := Aside0.mk hb
        clear hb
        go_wp2_with fail
        go_ret2
        exact ⟨rfl, HF.out.1.below HB2.out, HF.out.2.then_below HB2.out⟩
  · have e1 : objL l n ws = l := by unfold objL; rw [if_neg hroom]
    have e2 : objR tag l n ws = (0, false) := by unfold objR; rw [if_neg hroom]
    have ok : okA l n (ws.length : Nat) = false := by unfold okA; simp; omega
    have ra : resA l n (ws.length : Nat) = l := by unfold resA; rw [ok]; rfl
    have aa : atA l n (ws.length : Nat) = 0 := by unfold atA; rw [ok]; rfl
    rw [ok, ra, aa] at HA
    rw [e1, e2]
    clear H e1 e2 ok ra aa hr hc hna hw
    go_enter Try.func116, Try.ntmps116
    go_wp2_with fail
    refine HA.out.mono ?_
    rintro e w1 ⟨rfl, ha, hm⟩
    have HH1 := Aside0.mk (arena HH.out ha (hm.mono (S' := fun i => i = g ∨ i = gw) (fun i hi => .inl hi)))
    clear ha hm HA c0 c1 c2 f1
    go_wp2_with fail
    go_ret2
    exact ⟨rfl, HH1.out⟩
/-- Words in a box. -/
def boxWs (kind : Int) (ws : List Int) : List Int := headW kind ws.length :: ws
theorem W64.cons {kind : Int} {ws : List Int} (h : W64 ws) (hk : 0 ≤ kind ∧ kind < 16) (hs : ws.length ≤ 1000000) : W64 (boxWs kind ws) := by
  intro x hx
  rcases List.mem_cons.1 hx with rfl | hx
  · unfold headW; omega
  · exact h x hx
set_option maxHeartbeats 4000000 in
set_option maxRecDepth 100000 in
theorem box_calls (w : World) (B h g gw m : Nat) (v : Value) (l : List Int) (n : Nat) (ns : List ByteArray) (kind : Int) (A : Option Addr) (c : Nat) (ws : List Int) (H : Hp B w h g gw m v l n ns) (hk : 0 ≤ kind ∧ kind < 16) (hs : ws.length ≤ 1000000)
    (hr : ReadsInt w .u64 A ws.length ws) (hc : ws.length ≤ c) (hw : W64 ws) :
    Calls Try.prog 74 #[.pointer (some ⟨h, 0, none⟩), .int .i64 kind, .slice A ws.length c] w fun e w' => e = .returned (.tuple #[.int .u64 (objR 2 l n (boxWs kind ws)).1, .bool (objR 2 l n (boxWs kind ws)).2]) ∧ Hp B w' h g gw m v (objL l n (boxWs kind ws)) n ns ∧ Mods (SH h g gw m v) w w' := by
  have HH := Aside0.mk H
  have HR := Aside0.mk hr
  have HW := Aside0.mk (W64.cons hw hk hs)
  have HD := Aside0.mk (fun W => word_Head.calls kind (ws.length : Int) _ W (headW_eq kind ws.length hk hs))
  have HLT := Aside0.mk (And.intro H.ar.lt.1 H.ar.lt.2)
  have HBX : Aside0 (boxWs kind ws = [headW kind ws.length] ++ ws) := ⟨rfl⟩
  have HWL : Aside0 ((boxWs kind ws).length = ws.length + 1) := ⟨rfl⟩
  obtain ⟨bw, hbw⟩ : ∃ bw, boxWs kind ws = bw := ⟨_, rfl⟩
  rw [hbw] at HW HBX HWL ⊢
  generalize headW kind ws.length = hd at HD HBX
  obtain ⟨k, hk1⟩ : ∃ k, ws.length = k := ⟨_, rfl⟩
  have HK := Aside0.mk hk1
  rw [hk1] at HR HD HWL hs ⊢
  clear H hr hc hw hbw hk1 hk
  go_enter Try.func74, Try.ntmps74
  go_wp2_with fail
  refine (HD.out _).mono ?_
  rintro e w1 ⟨rfl, hb⟩
  have HB1 := Aside0.mk hb
  obtain ⟨W2, hW2⟩ : ∃ W2, w1.alloc (.cells #[.int .u64 hd] 25) = W2 := ⟨_, rfl⟩
  have hb2 : Below w.heap.size w W2 := by rw [← hW2]; exact below_alloc hb _
  have HB2 := Aside0.mk hb2
  have hown : W2.ownsRow w.heap.size 25 1 (.slice (some ⟨w1.heap.size, 0, none⟩) 1 1) [hd].length (nums .u64 [hd]) := by
    rw [← hW2]
    exact ⟨rfl, .inr ⟨w1.heap.size, 1, #[.int .u64 hd], rfl, hb.size, heap_alloc_new _ _, Nat.le_refl _, by unfold maxLen; omega, rfl, rfl⟩⟩
  have HOWN := Aside0.mk hown
  have HR2 := Aside0.mk (HR.out.below hb2)
  have HN0 := Aside0.mk (nums_length .u64 ws)
  clear hb hb2 hown HD
  go_wp2_with (at_builtin; refine print_append_row (w0 := w) w.heap.size rfl (.tmp 13) (.tmp 14) 57 25 .u64 8 rfl Try.underlying57 info64 (by decide) _ [hd] ws A k c rfl rfl HOWN.out HR2.out HB2.out HB2.out.size (by simp; omega) ?_; intro v1 w3 hown3 hb3 hg3 hat3)
  rw [← HBX.out] at hown3
  obtain ⟨A3, c3, hv3, hc3, hr3, hba3⟩ := Go.Proofs.YtlifdpfhepamfaaRowK.Row.reads (Row.of_own hown3)
  subst hv3
  refine (object_calls w3 B h g gw m v l n ns 2 A3 c3 bw (HH.out.below hb3) (.inr rfl) hr3 hc3 (fun ad e => by have := hba3 ad e; have := HLT.out; omega) HW.out).mono ?_
  have HB3 := Aside0.mk hb3
  clear hown3 hb3 hg3 hat3 hc3 hr3 hba3
  rintro e w4 ⟨rfl, hh, hm⟩
  have HF := Aside0.mk (And.intro hh ((Mods.of_below _ HB3.out).trans hm))
  clear hh hm
  go_wp2_with fail
  go_ret2
  exact ⟨rfl, HF.out⟩
/-- The word of a small number. -/
def smallW (x : Int) : Int := (x % 1152921504606846976) * 16 + 3
theorem smallW_eq (x : Int) (h0 : -576460752303423488 ≤ x) (h1 : x < 576460752303423488) : word_Small.f x = some (smallW x) := by
  have hm : mx (-576460752303423488) (mn x 576460752303423487) = x := by unfold mx mn; (repeat' split) <;> omega
  unfold word_Small.f
  rw [hm]
  have h2 : word_now.f 0 (IntKind.u64.wrap x) = some (smallW x) := by
    unfold word_now.f
    rw [wrap_u64, wrap_u64, wrap_u64, wrap_u64]
    rw [show (0 : Int) % 18446744073709551616 * 4 % 18446744073709551616 = 0 from rfl, show x % 18446744073709551616 * 16 % 18446744073709551616 = (x % 1152921504606846976) * 16 by omega]
    rw [or_join 4 ((x % 1152921504606846976) * 16) 0 (by omega) (by omega) (by omega) (by omega) (by omega) (by omega), or_join 2 ((x % 1152921504606846976) * 16 + 0) 3 (by omega) (by omega) (by omega) (by omega) (by omega) (by omega)]
    unfold smallW
    congr 1
    omega
  rw [h2, bindS]
theorem limbs_W64 {xs : List Int} (h : U32 xs) : W64 xs := by
  intro x hx
  obtain ⟨i, hi, e⟩ := List.getElem_of_mem hx
  have := h i
  rw [List.getD_eq_getElem?_getD, List.getElem?_eq_getElem hi, Option.getD_some, e] at this
  omega
/-- What Number leaves and returns. -/
def numWs (neg : Bool) (xs : List Int) : List Int := boxWs (if neg then 3 else 2) xs
def numL (b neg : Bool) (xs : List Int) (l : List Int) (n : Nat) : List Int := if b = false then l else if smallN b neg xs then l else objL l n (numWs neg xs)
def numR (b neg : Bool) (xs : List Int) (l : List Int) (n : Nat) : Int × Bool := if b = false then (0, false) else if smallN b neg xs then (smallW (intN b neg xs).1, true) else objR 2 l n (numWs neg xs)
set_option maxHeartbeats 4000000 in
set_option maxRecDepth 100000 in
theorem number_calls (w : World) (B h g gw m : Nat) (v : Value) (l : List Int) (n : Nat) (ns : List ByteArray) (neg : Bool) (A : Option Addr) (c : Nat) (xs : List Int) (b : Bool) (H : Hp B w h g gw m v l n ns)
    (hr : Kd.C (Kd.int .u32) w A xs.length xs) (hc : xs.length ≤ c) (hck : num_Check.f neg xs = some b) (hu32 : U32 xs) (hlen : b = true → xs.length ≤ 12) :
    Calls Try.prog 22 #[.pointer (some ⟨h, 0, none⟩), .agg #[.bool neg, .slice A xs.length c]] w fun e w' => e = .returned (.tuple #[.int .u64 (numR b neg xs l n).1, .bool (numR b neg xs l n).2]) ∧ Hp B w' h g gw m v (numL b neg xs l n) n ns ∧ Mods (SH h g gw m v) w w' := by
  have hu := Try.underlying41
  have HH := Aside0.mk H
  have HR := Aside0.mk hr
  have HC := Aside0.mk hc
  have HU := Aside0.mk hu32
  have HN := Aside0.mk (fun (W : World) (hb : Below w.heap.size w W) => num_Check.calls neg A c xs b W (Kd.C_below hr hb) hc hck)
  have HI := Aside0.mk (fun (W : World) (hb : Below w.heap.size w W) => int_calls W neg A c xs b (Kd.C_below hr hb) hc hck hu32)
  have HS := Aside0.mk (fun (W : World) (hb : Below w.heap.size w W) => small_calls W neg A c xs b (Kd.C_below hr hb) hc hck hu32)
  have HLEN := Aside0.mk hlen
  obtain ⟨g0, hg0⟩ : ∃ g0, w.heap.size = g0 := ⟨_, rfl⟩
  obtain ⟨k, hk⟩ : ∃ k, xs.length = k := ⟨_, rfl⟩
  obtain ⟨W, hW⟩ : ∃ W, w.alloc (.cells #[.bool neg, .slice A k c] 41) = W := ⟨_, rfl⟩
  have h0 : W.heap[g0]? = some (.cells #[.bool neg, .slice A k c] 41 (0, 0)) := by rw [← hW, ← hg0]; exact heap_alloc_new _ _
  have hb : Below w.heap.size w W := by rw [← hW]; exact below_alloc (Below.refl _ _) _
  obtain ⟨c0, c1, f0, f1⟩ := two_cells h0
  have H0 := Aside0.mk h0
  have HB := Aside0.mk hb
  have HK := Aside0.mk hk
  rw [hk] at HN HI HS HR HC HLEN ⊢
  clear H hr hc hck hu32 hlen h0 hb hk
  cases b with
  | false =>
    have e1 : numL false neg xs l n = l := rfl
    have e2 : numR false neg xs l n = (0, false) := rfl
    rw [e1, e2]
    go_enter Try.func22, Try.ntmps22
    go_wp2_with fail
    refine (HN.out W HB.out).mono ?_
    rintro e w1 ⟨rfl, hb⟩
    have HB1 := Aside0.mk (below_step HB.out hb)
    clear hb
    go_wp2_with fail
    go_ret2
    refine ⟨rfl, HH.out.below (by first | exact HB1.out | (rw [hg0]; exact HB1.out) | (rw [← hg0]; exact HB1.out)), Mods.of_below _ (by first | exact HB1.out | (rw [← hg0]; exact HB1.out))⟩
  | true =>
    have e1 : numL true neg xs l n = if smallN true neg xs then l else objL l n (numWs neg xs) := rfl
    have e2 : numR true neg xs l n = if smallN true neg xs then (smallW (intN true neg xs).1, true) else objR 2 l n (numWs neg xs) := rfl
    rw [e1, e2]
    have hsw : smallN true neg xs = true → word_Small.f (intN true neg xs).1 = some (smallW (intN true neg xs).1) := by
      intro hs
      unfold smallN at hs
      simp only [Bool.and_eq_true, decide_eq_true_eq] at hs
      exact smallW_eq _ hs.2.1 hs.2.2
    have HSW := Aside0.mk hsw
    clear hsw e1 e2
    generalize intN true neg xs = iv at HI HSW ⊢
    obtain ⟨x, ok⟩ := iv
    simp only at HI HSW ⊢
    generalize smallN true neg xs = sm at HS HSW ⊢
    obtain ⟨L1, hL1⟩ : ∃ L1, (if sm = true then l else objL l n (numWs neg xs)) = L1 := ⟨_, rfl⟩
    obtain ⟨R1, hR1⟩ : ∃ R1, (if sm = true then (smallW x, true) else objR 2 l n (numWs neg xs)) = R1 := ⟨_, rfl⟩
    rw [hL1, hR1]
    have HLR := Aside0.mk (And.intro hL1 hR1)
    clear hL1 hR1
    go_enter Try.func22, Try.ntmps22
    go_wp2_with fail
    refine (HN.out W HB.out).mono ?_
    rintro e w1 ⟨rfl, hb⟩
    have HB1 := Aside0.mk (below_step HB.out hb)
    have H1 := Aside0.mk ((hb.block _ (blk_lt H0.out)).trans H0.out)
    obtain ⟨d0, d1, z0, z1⟩ := two_cells H1.out
    clear hb c0 c1 f0 f1
    go_wp2_with fail
    refine (HI.out w1 HB1.out).mono ?_
    rintro e w2 ⟨rfl, hb⟩
    have HB2 := Aside0.mk (below_step HB1.out hb)
    have H2 := Aside0.mk ((hb.block _ (blk_lt H1.out)).trans H1.out)
    obtain ⟨p0, p1, y0, y1⟩ := two_cells H2.out
    clear hb d0 d1 z0 z1 hW
    go_wp2_with fail
    refine (HS.out w2 HB2.out).mono ?_
    rintro e w3 ⟨rfl, hb⟩
    have HB3 := Aside0.mk (below_step HB2.out hb)
    have H3 := Aside0.mk ((hb.block _ (blk_lt H2.out)).trans H2.out)
    obtain ⟨q0, q1, x0, x1⟩ := two_cells H3.out
    clear hb p0 p1 y0 y1
    cases sm with
    | true =>
      have HP := Aside0.mk (fun W => word_Small.calls x _ W (HSW.out rfl))
      go_wp2_with fail
      refine (HP.out _).mono ?_
      rintro e w4 ⟨rfl, hb⟩
      have HB4 := Aside0.mk (below_step HB3.out hb)
      clear hb
      go_wp2_with fail
      go_ret2
      have hlr := HLR.out
      rw [if_pos trivial, if_pos trivial] at hlr
      exact ⟨by rw [← hlr.2]; rfl, by rw [← hlr.1]; exact HH.out.below (by first | exact HB4.out | (rw [← hg0]; exact HB4.out)), Mods.of_below _ (by first | exact HB4.out | (rw [← hg0]; exact HB4.out))⟩
    | false =>
      have hk12 : k ≤ 12 := by have := HLEN.out; simpa using this
      obtain ⟨kd, hkd⟩ : ∃ kd : Int, (if neg then 3 else 2) = kd := ⟨_, rfl⟩
      have hkb : 0 ≤ kd ∧ kd < 16 := by rw [← hkd]; split <;> omega
      have hnw : numWs neg xs = boxWs kd xs := by unfold numWs; rw [hkd]
      have HKD := Aside0.mk hkb
      have HKE := Aside0.mk hkd
      have HLT := Aside0.mk (And.intro (HH.out.foot) (show w.heap.size ≤ w.heap.size from Nat.le_refl _))
      have HE0 : Aside0 (w3.ownsRow w.heap.size 25 1 (.slice none 0 0) ([] : List Int).length (nums .u64 [])) := ⟨⟨rfl, .inl ⟨rfl, rfl⟩⟩⟩
      have HLR2 : Aside0 (objL l n (boxWs kd xs) = L1 ∧ objR 2 l n (boxWs kd xs) = R1) := ⟨by
        have hlr := HLR.out
        rw [if_neg (by decide), if_neg (by decide), hnw] at hlr
        exact hlr⟩
      clear hkb hnw
      cases neg
      all_goals
        have hkd2 := HKE.out
        simp only [if_true, if_false, Bool.false_eq_true, ↓reduceIte] at hkd2
        subst hkd2
        clear hkd
        go_wp2_with fail
        go_loopg [9, 29] k (fun q v9 v29 wr => ∃ i : Nat, q = k - i ∧ i ≤ k ∧ v29 = .int .i64 i ∧ Aside0 (wr.ownsRow w.heap.size 25 1 v9 (xs.take i).length (nums .u64 (xs.take i)) ∧ Below w.heap.size w wr))
        case atStart => exact ⟨0, by omega, by omega, rfl, ⟨by rw [List.take_zero]; exact HE0.out, by first | exact HB3.out | (rw [← hg0]; exact HB3.out)⟩⟩
        case round =>
          obtain ⟨i, rfl, hi, rfl, HL⟩ := hrel
          by_cases hlt : i < k
          · have b1 : (i : Int) < (k : Int) := by omega
            obtain ⟨ad, ea, hcell⟩ := Kd.at_int HR.out (i : Int) (by omega) (by omega)
            subst ea
            rw [Int.toNat_natCast, show rd xs (i : Int) = xs.getD i 0 from by unfold rd; rw [Int.toNat_natCast]] at hcell
            have hcw := pw_cell_below HL.out.2 hcell
            have hub := HU.out i
            have htk : xs.take (i + 1) = xs.take i ++ [xs.getD i 0] := by
              rw [List.take_add_one, List.getElem?_eq_getElem (by rw [HK.out]; omega), List.getD_eq_getElem?_getD, List.getElem?_eq_getElem (by rw [HK.out]; omega)]
              rfl
            have HTK := Aside0.mk htk
            have htl : (xs.take i).length = i := by rw [List.length_take, HK.out]; omega
            have HTL := Aside0.mk htl
            generalize xs.getD i 0 = x at hcw hub HTK
            have hwx : IntKind.u64.wrap x = x := by rw [wrap_u64]; omega
            obtain ⟨W5, hW5⟩ : ∃ W5, wr.alloc (.cells #[.int .u64 x] 25) = W5 := ⟨_, rfl⟩
            have HOW5 := Aside0.mk (show W5.ownsRow w.heap.size 25 1 _ (xs.take i).length (nums .u64 (xs.take i)) from hW5 ▸ HL.out.1.alloc _)
            have HB5 := Aside0.mk (show Below w.heap.size w W5 from hW5 ▸ below_alloc HL.out.2 _)
            have HRD5 : Aside0 (ReadsInt W5 .u64 (some ⟨wr.heap.size, 0, none⟩) 1 [x]) := ⟨by rw [← hW5]; exact reads_blk (xs := [x]) (heap_alloc_new wr _) 1 (by simp) (by omega)⟩
            clear hcell htk htl
            go_wp2_with (at_builtin; refine print_append_row (w0 := w) w.heap.size rfl (.tmp 33) (.tmp 36) 57 25 .u64 8 rfl Try.underlying57 info64 (by decide) _ (xs.take i) [x] (some ⟨wr.heap.size, 0, none⟩) 1 1 rfl rfl HOW5.out HRD5.out HB5.out HB5.out.size (by have := HTL.out; omega) ?_; intro v1 w6 hown6 hb6 hg6 hat6)
            go_roundg (k - (i + 1))
            case measure => omega
            case rel => exact ⟨i + 1, rfl, by omega, by go_num, ⟨by rw [HTK.out]; exact hown6, hb6⟩⟩
          · obtain rfl : i = k := by omega
            have b1 : ¬ (i : Int) < (i : Int) := by omega
            have hall : xs.take i = xs := by rw [← HK.out]; exact List.take_length
            rw [hall, HK.out] at HL
            obtain ⟨A3, c3, hv3, hc3, hr3, hba3⟩ := Go.Proofs.YtlifdpfhepamfaaRowK.Row.reads (Row.of_own HL.out.1)
            subst hv3
            have HBX := Aside0.mk (box_calls wr B h g gw m v l n ns _ A3 c3 xs (HH.out.below HL.out.2) HKD.out (by rw [HK.out]; omega) (by rw [HK.out]; exact hr3) (by rw [HK.out]; exact hc3) (limbs_W64 HU.out))
            have HBL := Aside0.mk HL.out.2
            rw [HK.out] at HBX
            clear hall hr3 hc3 hba3 HL
            go_wp2_with fail
            refine HBX.out.mono ?_
            rintro e w7 ⟨rfl, hh, hm⟩
            have HF := Aside0.mk (And.intro hh ((Mods.of_below _ HBL.out).trans hm))
            clear hh hm
            go_wp2_with fail
            go_ret2
            exact ⟨by rw [← HLR2.out.2]; rfl, by rw [← HLR2.out.1]; exact HF.out.1, HF.out.2⟩
end Go.Proofs.YtlifdpfhepamfaaHo
