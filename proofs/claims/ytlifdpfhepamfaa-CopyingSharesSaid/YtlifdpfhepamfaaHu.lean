/- Lists of numbers are put. -/
import Derived.Test.YtlifdpfhepamfaaHw
namespace Go.Proofs.YtlifdpfhepamfaaHu
open Go.RowKit Go.Maps Go.Proofs.YtlifdpfhepamfaaW.PrintWords Go.Proofs.YtlifdpfhepamfaaW.PrintLast Go.Proofs.YtlifdpfhepamfaaW.PrintMore Go.Proofs.YtlifdpfhepamfaaMem Go.Proofs.YtlifdpfhepamfaaLeaf Go.Proofs.YtlifdpfhepamfaaBits Go.Proofs.Ytlifdpfhepamfaa.PHe Go.Proofs.YtlifdpfhepamfaaRow Go.Proofs.YtlifdpfhepamfaaAr Go.Proofs.YtlifdpfhepamfaaHp Go.Proofs.YtlifdpfhepamfaaHn Go.Proofs.YtlifdpfhepamfaaHo Go.Proofs.YtlifdpfhepamfaaHt Go.Proofs.YtlifdpfhepamfaaHw Go.Proofs
set_option linter.unusedVariables false
set_option linter.unusedSimpArgs false
/-- A number's words; its word. -/
def numLw (v : Int) (l : List Int) : List Int := if smallN true (decide (v < 0)) (absL v) then l else l ++ numWs (decide (v < 0)) (absL v)
def numWw (v : Int) (l : List Int) : Int := if smallN true (decide (v < 0)) (absL v) then smallW (intN true (decide (v < 0)) (absL v)).1 else ptrW 2 l.length
def putLw : List Int → List Int → List Int
  | [], l => l
  | v :: vs, l => putLw vs (numLw v l) ++ [numWw v l, match vs with | [] => 11 | _ :: _ => ptrW 1 ((putLw vs (numLw v l)).length - 2)]
def putWw (vs l : List Int) : Int := match vs with | [] => 11 | _ :: _ => ptrW 1 ((putLw vs l).length - 2)
theorem putLw_cons (v : Int) (vs l : List Int) : putLw (v :: vs) l = putLw vs (numLw v l) ++ [numWw v l, putWw vs (numLw v l)] := rfl
theorem numLw_len (v : Int) (l : List Int) : (numLw v l).length = l.length + wN v := by
  unfold numLw wN
  split
  · rfl
  · simp [numWs, boxWs]; omega
theorem putLw_len : ∀ (xs l : List Int), (putLw xs l).length = l.length + wL xs
  | [], l => rfl
  | v :: vs, l => by
    rw [putLw_cons, List.length_append, putLw_len vs, numLw_len]
    simp only [wL, List.length_cons, List.length_nil]
    omega
theorem putWw_cons (v : Int) (vs l : List Int) : putWw (v :: vs) l = ptrW 1 (putLw vs (numLw v l)).length := by
  show ptrW 1 ((putLw (v :: vs) l).length - 2) = _
  rw [putLw_cons, List.length_append]
  rfl
theorem numWw_bd (v : Int) (l : List Int) (hl : l.length ≤ 32768) : 0 ≤ numWw v l ∧ numWw v l < 18446744073709551616 := by
  unfold numWw
  split
  · unfold smallW; omega
  · unfold ptrW; omega
theorem putWw_bd (vs l : List Int) (hl : (putLw vs l).length ≤ 32768) : 0 ≤ putWw vs l ∧ putWw vs l < 18446744073709551616 := by
  cases vs with
  | nil => show (0 : Int) ≤ 11 ∧ (11 : Int) < 18446744073709551616; omega
  | cons v vs => show 0 ≤ ptrW 1 ((putLw (v :: vs) l).length - 2) ∧ ptrW 1 ((putLw (v :: vs) l).length - 2) < _; unfold ptrW; omega
/-- What a put leaves. -/
def PutPost (B : Nat) (w : World) (h g gw m : Nat) (v : Value) (l : List Int) (n : Nat) (ns : List ByteArray) (x : Int) (e : Ending) (w' : World) : Prop :=
  e = .returned (.tuple #[.int .u64 x, .bool true]) ∧ Hp B w' h g gw m v l n ns ∧ Mods (SH h g gw m v) w w'
set_option maxHeartbeats 4000000 in
set_option maxRecDepth 100000 in
theorem put_int (w : World) (B h g gw m : Nat) (u : Value) (l : List Int) (n : Nat) (ns : List ByteArray) (ok : Nat → Prop) (v : Int) (h0 : -9223372036854775808 ≤ v) (h1 : v < 9223372036854775808) (A2 : Option Addr) (c2 : Nat) (A5 : Option Addr) (c5 : Nat)
    (H : Hp B w h g gw m u l n ns) (hT : TF w ok (IN v) A2 c2 A5 c5) (hroom : wN v ≤ n - l.length) :
    Calls Try.prog 67 #[.pointer (some ⟨h, 0, none⟩), .agg (cellsT (IN v) A2 c2 A5 c5)] w (PutPost B w h g gw m u (numLw v l) n ns (numWw v l)) := by
  have hu := Try.underlying41
  obtain ⟨q, hq⟩ : ∃ q, w.heap.size = q := ⟨_, rfl⟩
  have hck := check_IN v h0 h1
  have hu32 := u32_IN v h0 h1
  have hlen : (absL v).length ≤ 2 := limbs_len _
  have hr : Kd.C (Kd.int .u32) w A2 (absL v).length (absL v) := Kd.F_now hT.1
  have hc : (absL v).length ≤ c2 := hT.2.1
  have e1 : numL true (decide (v < 0)) (absL v) l n = numLw v l := by
    unfold numL numLw objL
    rw [if_neg (by decide)]
    split
    · rfl
    · rename_i hs
      rw [if_pos]
      have : wN v = 1 + (absL v).length := by unfold wN; rw [if_neg hs]
      simp [numWs, boxWs]; omega
  have e2 : numR true (decide (v < 0)) (absL v) l n = (numWw v l, true) := by
    unfold numR numWw objR
    rw [if_neg (by decide)]
    split
    · rfl
    · rename_i hs
      rw [if_pos]
      have : wN v = 1 + (absL v).length := by unfold wN; rw [if_neg hs]
      simp [numWs, boxWs]; omega
  obtain ⟨ng, hng⟩ : ∃ ng, decide (v < 0) = ng := ⟨_, rfl⟩
  obtain ⟨xs, hxs⟩ : ∃ xs, absL v = xs := ⟨_, rfl⟩
  have ec : cellsT (IN v) A2 c2 A5 c5 = #[.int .i64 1, .bool ng, .slice A2 xs.length c2, .string ⟨#[]⟩, .int .i64 0, .slice A5 0 c5] := by rw [← hng, ← hxs]; rfl
  rw [hng, hxs] at hck e1 e2
  rw [hxs] at hu32 hr hc hlen
  rw [ec]
  have HK := Aside0.mk (fun (W : World) (hb : Below w.heap.size w W) => num_Check.calls ng A2 c2 xs true W (Kd.C_below hr hb) hc hck)
  have HNM := Aside0.mk (fun (W : World) (hb : Below w.heap.size w W) => number_calls W B h g gw m u l n ns ng A2 c2 xs true (H.below hb) (Kd.C_below hr hb) hc hck hu32 (fun _ => by omega))
  rw [e1, e2] at HNM
  clear ec hng hxs hT hck hu32 hlen hr hc e1 e2
  obtain ⟨W, hW⟩ : ∃ W, w.alloc (.cells #[.int .i64 1, .bool ng, .slice A2 xs.length c2, .string ⟨#[]⟩, .int .i64 0, .slice A5 0 c5] 43) = W := ⟨_, rfl⟩
  have hg0 : W.heap[q]? = some (.cells #[.int .i64 1, .bool ng, .slice A2 xs.length c2, .string ⟨#[]⟩, .int .i64 0, .slice A5 0 c5] 43 (0, 0)) := by rw [← hW, ← hq]; exact heap_alloc_new _ _
  have hb : Below w.heap.size w W := by rw [← hW]; exact below_alloc (Below.refl _ _) _
  obtain ⟨b0, b1, b2, b3, b4, b5⟩ := six_cells hg0
  have HB := Aside0.mk hb
  have H0 := Aside0.mk hg0
  generalize numLw v l = l1 at HNM ⊢
  generalize numWw v l = x1 at HNM ⊢
  clear hg0 hb H hroom
  go_enter Try.func67, Try.ntmps67
  go_wp2_with fail
  refine (HK.out W HB.out).mono ?_
  rintro e w1 ⟨rfl, hb⟩
  have HB1 := Aside0.mk (below_step HB.out hb)
  obtain ⟨d0, d1, d2, d3, d4, d5⟩ := six_cells ((hb.block _ (blk_lt H0.out)).trans H0.out)
  clear hb b0 b1 b2 b3 b4 b5 hW HK
  go_wp2_with fail
  refine (HNM.out w1 HB1.out).mono ?_
  rintro e w2 ⟨rfl, hh, hm⟩
  have HF := Aside0.mk (And.intro hh ((Mods.of_below _ HB1.out).trans hm))
  clear hh hm
  go_wp2_with fail
  go_ret2
  exact ⟨rfl, HF.out⟩
set_option maxHeartbeats 4000000 in
set_option maxRecDepth 100000 in
theorem put_nil (w : World) (B h g gw m : Nat) (u : Value) (l : List Int) (n : Nat) (ns : List ByteArray) (A2 : Option Addr) (c2 : Nat) (A5 : Option Addr) (c5 : Nat) (H : Hp B w h g gw m u l n ns) :
    Calls Try.prog 67 #[.pointer (some ⟨h, 0, none⟩), .agg (cellsT (LI []) A2 c2 A5 c5)] w (PutPost B w h g gw m u l n ns 11) := by
  obtain ⟨q, hq⟩ : ∃ q, w.heap.size = q := ⟨_, rfl⟩
  have ec : cellsT (LI []) A2 c2 A5 c5 = #[.int .i64 3, .bool false, .slice A2 0 c2, .string ⟨#[]⟩, .int .i64 0, .slice A5 0 c5] := rfl
  rw [ec]
  obtain ⟨W, hW⟩ : ∃ W, w.alloc (.cells #[.int .i64 3, .bool false, .slice A2 0 c2, .string ⟨#[]⟩, .int .i64 0, .slice A5 0 c5] 43) = W := ⟨_, rfl⟩
  have hg0 : W.heap[q]? = some (.cells #[.int .i64 3, .bool false, .slice A2 0 c2, .string ⟨#[]⟩, .int .i64 0, .slice A5 0 c5] 43 (0, 0)) := by rw [← hW, ← hq]; exact heap_alloc_new _ _
  have hb : Below w.heap.size w W := by rw [← hW]; exact below_alloc (Below.refl _ _) _
  obtain ⟨b0, b1, b2, b3, b4, b5⟩ := six_cells hg0
  have HB := Aside0.mk hb
  have HH := Aside0.mk H
  clear hg0 hb H
  go_enter Try.func67, Try.ntmps67
  go_wp2_with fail
  go_ret2
  exact ⟨rfl, HH.out.below HB.out, Mods.of_below _ HB.out⟩
/-- What all's result is. -/
def AllPost (B : Nat) (w : World) (h g gw m : Nat) (v : Value) (l : List Int) (n : Nat) (ns : List ByteArray) (xs : List Int) (e : Ending) (w' : World) : Prop :=
  ∃ A c, e = .returned (.slice A xs.length c) ∧ xs.length ≤ c ∧ ReadsInt w' .u64 A xs.length xs ∧ (∀ ad, A = some ad → w.heap.size ≤ ad.block) ∧ Hp B w' h g gw m v l n ns ∧ Mods (SH h g gw m v) w w'
theorem info64_ : (Try.prog.info? 25).map (fun i => (i.zero, i.size, i.bytes)) = some (some (.int .u64 0), 1, 8) := by kernel_rfl
set_option maxHeartbeats 8000000 in
set_option maxRecDepth 100000 in
theorem all_two (w : World) (B h g gw m : Nat) (u : Value) (l l1 l2 : List Int) (n : Nat) (ns : List ByteArray) (ok : Nat → Prop) (v : Int) (vs : List Int) (x1 x2 : Int) (A2 : Option Addr) (c2 : Nat) (A5 : Option Addr) (c5 : Nat)
    (H : Hp B w h g gw m u l n ns) (hT : TF w ok (LI (v :: vs)) A2 c2 A5 c5) (hdis : ∀ k, ok k → ¬ SH h g gw m u k)
    (hk1 : ∀ W B2 d2 B5 d5, Hp B W h g gw m u l n ns → TF W ok (IN v) B2 d2 B5 d5 → Calls Try.prog 67 #[.pointer (some ⟨h, 0, none⟩), .agg (cellsT (IN v) B2 d2 B5 d5)] W (PutPost B W h g gw m u l1 n ns x1))
    (hk2 : ∀ W B2 d2 B5 d5, Hp B W h g gw m u l1 n ns → TF W ok (LI vs) B2 d2 B5 d5 → Calls Try.prog 67 #[.pointer (some ⟨h, 0, none⟩), .agg (cellsT (LI vs) B2 d2 B5 d5)] W (PutPost B W h g gw m u l2 n ns x2)) :
    Calls Try.prog 117 #[.pointer (some ⟨h, 0, none⟩), .slice A5 2 c5] w (AllPost B w h g gw m u l2 n ns [x1, x2]) := by
  have hu := Try.underlying43
  obtain ⟨ad, _, _, _, _, _, _, _, _, hA5, _⟩ := LI_kids hT
  subst hA5
  have HT := Aside0.mk hT
  have HD := Aside0.mk hdis
  have HH := Aside0.mk H
  have HK1 := Aside0.mk hk1
  have HK2 := Aside0.mk hk2
  have HLT : Aside0 (∀ k, SH h g gw m u k → k < w.heap.size) := ⟨fun k hk => (H.foot k hk).2⟩
  obtain ⟨i0, hi, hz0, hz1, hz2⟩ := info_parts info64_
  have HI := Aside0.mk (And.intro hi (And.intro hz0 (And.intro hz1 hz2)))
  have HE0 : Aside0 (Row w w.heap.size 25 1 (.slice none 0 0) 0 (nums .u64 [])) := ⟨⟨rfl, .inl ⟨rfl, rfl⟩⟩⟩
  clear hT hdis H hk1 hk2 hi hz0 hz1 hz2
  go_enter Try.func117, Try.ntmps117
  go_wp2_with fail
  go_loopg [5, 12] 3 (fun q v5 v12 wr => ∃ i : Nat, v12 = .int .i64 i ∧ i ≤ 2 ∧ q = 3 - i ∧ Aside0 (Row wr w.heap.size 25 1 v5 i (nums .u64 (([x1, x2] : List Int).take i))) ∧ Aside0 (Hp B wr h g gw m u (if i = 0 then l else if i = 1 then l1 else l2) n ns ∧ Mods (SH h g gw m u) w wr))
  case atStart => exact ⟨0, rfl, by omega, rfl, HE0, ⟨HH.out, Mods.refl _ _⟩⟩
  case round =>
    obtain ⟨i, rfl, hi, rfl, HROW, HP⟩ := hrel
    by_cases h2 : i < 2
    · have hi2 : i = 0 ∨ i = 1 := by omega
      have hTr := HT.out.step (fun k hk hlt => HP.out.2.block k hlt (HD.out k hk))
      obtain ⟨ad', B2, d2, B5, d5, E2, e2, E5, e5, ea, ht1, hs1, ht2, hs2⟩ := LI_kids hTr
      injection ea with ea
      subst ea
      have hcell : ∃ (p : Addr) (x : TT) (C2 : Option Addr) (f2 : Nat) (C5 : Option Addr) (f5 : Nat) (y : Int), Six wr p x C2 f2 C5 f5 ∧ p = ad.add (i * 6) ∧ (([x1, x2] : List Int).take (i + 1) = ([x1, x2] : List Int).take i ++ [y]) ∧
          (∀ W, Below wr.heap.size wr W → Calls Try.prog 67 #[.pointer (some ⟨h, 0, none⟩), .agg (cellsT x C2 f2 C5 f5)] W (PutPost B W h g gw m u (if i + 1 = 0 then l else if i + 1 = 1 then l1 else l2) n ns y)) := by
        rcases hi2 with rfl | rfl
        · exact ⟨ad, IN v, B2, d2, B5, d5, x1, hs1, rfl, rfl, fun W hb => HK1.out W B2 d2 B5 d5 (HP.out.1.below hb) (ht1.below hb)⟩
        · exact ⟨⟨ad.block, ad.off + 6, none⟩, LI vs, E2, e2, E5, e5, x2, hs2, rfl, rfl, fun W hb => HK2.out W E2 e2 E5 e5 (HP.out.1.below hb) (ht2.below hb)⟩
      obtain ⟨p, x, C2, f2, C5, f5, y, hsix, hp, htk, hcall⟩ := hcell
      have HCALL := Aside0.mk hcall
      have HTK := Aside0.mk htk
      unfold Six at hsix
      rw [hp] at hsix
      obtain ⟨s0, s1, s2, s3, s4, s5⟩ := hsix
      have b1 : (i : Int) < 2 := by omega
      obtain ⟨g5, hg5⟩ : ∃ g5, wr.heap.size = g5 := ⟨_, rfl⟩
      obtain ⟨W5, hW5⟩ : ∃ W5, wr.alloc (.cells #[.int .i64 0, .bool false, .slice none 0 0, .string ⟨#[]⟩, .int .i64 0, .slice none 0 0] 43) = W5 := ⟨_, rfl⟩
      have n5 : W5.heap[g5]? = some (.cells #[.int .i64 0, .bool false, .slice none 0 0, .string ⟨#[]⟩, .int .i64 0, .slice none 0 0] 43 (0, 0)) := by rw [← hW5, ← hg5]; exact heap_alloc_new _ _
      have m5 := six_put (a' := .int .i64 x.f0) (b' := .bool x.f1.f0) (c' := .slice C2 x.f1.f1.length f2) (d' := .string x.f2) (e' := .int .i64 x.f3) (f' := .slice C5 x.f4.length f5) n5
      obtain ⟨p0, p1, p2, p3, p4, p5⟩ := six_cells n5
      obtain ⟨z0, z1, z2, z3, z4, z5⟩ := six_live n5
      obtain ⟨W6, hW6⟩ : ∃ W6, (((((W5.setCell ⟨g5, 0, none⟩ (.int .i64 x.f0)).setCell ⟨g5, 1, none⟩ (.bool x.f1.f0)).setCell ⟨g5, 2, none⟩ (.slice C2 x.f1.f1.length f2)).setCell ⟨g5, 3, none⟩ (.string x.f2)).setCell ⟨g5, 4, none⟩ (.int .i64 x.f3)).setCell ⟨g5, 5, none⟩ (.slice C5 x.f4.length f5) = W6 := ⟨_, rfl⟩
      rw [hW6] at m5
      obtain ⟨r0, r1, r2, r3, r4, r5⟩ := six_cells m5
      have HB6 : Aside0 (Below wr.heap.size wr W6) := ⟨by
        have hle : wr.heap.size ≤ g5 := by omega
        rw [← hW6]; exact below_six (by rw [← hW5]; exact below_alloc (Below.refl _ _) _) hle⟩
      clear n5 m5 hi2 hcall htk hp hTr ht1 hs1 ht2 hs2
      go_wp2_with fail
      refine (HCALL.out W6 HB6.out).mono ?_
      rintro e w7 ⟨rfl, hh, hm⟩
      obtain ⟨AR, cR, hvR, hcR⟩ := HROW.out.form
      subst hvR
      have M7 := (HP.out.2.then_below HB6.out).trans hm
      have HP7 := Aside0.mk (And.intro hh M7)
      have hrow7 : Row w7 w.heap.size 25 1 (.slice AR i cR) i (nums .u64 (([x1, x2] : List Int).take i)) := (HROW.out.mods (Mods.of_below (fun _ => False) HB6.out) (fun _ _ => id)).mods hm (fun k hk hs => by
        have h1 := (HROW.out.base_ k hk).1
        have h2 := HLT.out k hs
        omega)
      obtain ⟨W8, hW8⟩ : ∃ W8, w7.alloc (.cells #[.int .u64 y] 25) = W8 := ⟨_, rfl⟩
      have hb8 : Below w7.heap.size w7 W8 := by rw [← hW8]; exact below_alloc (Below.refl _ _) _
      have HROW8 := Aside0.mk (hrow7.mods (Mods.of_below (fun _ => False) hb8) (fun _ _ => id))
      have HN8 : Aside0 (W8.heap[w7.heap.size]? = some (.cells #[.int .u64 y] 25 (0, 0))) := ⟨by rw [← hW8]; exact heap_alloc_new _ _⟩
      have HP8 := Aside0.mk (And.intro (hh.below hb8) (M7.then_below hb8))
      have HSZ8 : Aside0 (w.heap.size ≤ W8.heap.size) := ⟨HP8.out.2.size⟩
      clear hh hm M7 hrow7 hb8 p0 p1 p2 p3 p4 p5 z0 z1 z2 z3 z4 z5 r0 r1 r2 r3 r4 r5 s0 s1 s2 s3 s4 s5 hW6 hW5
      go_wp2_with (at_builtin; refine wp_append_row rfl (.tmp 22) (.tmp 24) 57 rfl w.heap.size 25 i0 (.int .u64 0) 1 8 Try.underlying57 HI.out.1 HI.out.2.1 HI.out.2.2.1 HI.out.2.2.2 rfl (by omega) _ i _ rfl HROW8.out ⟨w7.heap.size, 0, none⟩ 1 1 [.int .u64 y] rfl rfl (fun j q hj => by rw [add_plain, blk_cell HN8.out]; simpa using hj) (by intro q hq; simp at hq; subst hq; rfl) (by unfold maxLen; omega) (by omega) HSZ8.out ?_; intro A9 c9 w9 hrow9 hg9 hat9)
      have hg9' : W8.grownBy w9 (Value.slice AR i cR).ownBlock := hg9
      have M9 := Mods.of_grown hg9'
      have hown : ∀ k, some k = (Value.slice AR i cR).ownBlock → w.heap.size ≤ k ∧ ¬ SH h g gw m u k := fun k hk => by
        have h1 := (HROW8.out.base_ k hk.symm).1
        exact ⟨h1, fun hs => by have := HLT.out k hs; omega⟩
      have HP9 : Aside0 (Hp B w9 h g gw m u (if i + 1 = 0 then l else if i + 1 = 1 then l1 else l2) n ns ∧ Mods (SH h g gw m u) w w9) := ⟨HP8.out.1.mods M9 (fun k hk hs => (hown k hs).2 hk), HP8.out.2.trans' M9 (fun k hk => .inr (hown k hk).1)⟩
      have HROW9 : Aside0 (Row w9 w.heap.size 25 1 (.slice A9 (i + 1) c9) (i + 1) (nums .u64 (([x1, x2] : List Int).take (i + 1)))) := ⟨by rw [HTK.out]; simpa [nums] using hrow9⟩
      clear hrow9 hg9 hat9 hg9' M9 hown
      go_roundg (3 - (i + 1))
      case measure => omega
      case rel => exact ⟨i + 1, by go_num, by omega, rfl, HROW9, HP9⟩
    · obtain rfl : i = 2 := by omega
      have b1 : ¬ (2 : Int) < 2 := by omega
      obtain ⟨AF, cF, hvF, hcF, hrF, hbF⟩ := Go.Proofs.YtlifdpfhepamfaaRowK.Row.reads HROW.out
      subst hvF
      have HRF := Aside0.mk (And.intro hrF hbF)
      have HPF := Aside0.mk (show Hp B wr h g gw m u l2 n ns ∧ Mods (SH h g gw m u) w wr from by simpa using HP.out)
      clear hrF hbF HP HROW
      go_wp2_with fail
      go_ret
      exact ⟨AF, cF, rfl, hcF, HRF.out.1, HRF.out.2, HPF.out.1, HPF.out.2⟩
set_option maxHeartbeats 4000000 in
set_option maxRecDepth 100000 in
theorem put_list : ∀ (xs : List Int), I64 xs → ∀ (w : World) (B h g gw m : Nat) (u : Value) (l : List Int) (n : Nat) (ns : List ByteArray) (ok : Nat → Prop) (A2 : Option Addr) (c2 : Nat) (A5 : Option Addr) (c5 : Nat),
    Hp B w h g gw m u l n ns → TF w ok (LI xs) A2 c2 A5 c5 → (∀ k, ok k → ¬ SH h g gw m u k) → wL xs ≤ n - l.length →
    Calls Try.prog 67 #[.pointer (some ⟨h, 0, none⟩), .agg (cellsT (LI xs) A2 c2 A5 c5)] w (PutPost B w h g gw m u (putLw xs l) n ns (putWw xs l))
  | [], _, w, B, h, g, gw, m, u, l, n, ns, ok, A2, c2, A5, c5, H, hT, hdis, hroom => put_nil w B h g gw m u l n ns A2 c2 A5 c5 H
  | v :: vs, hI, w, B, h, g, gw, m, u, l, n, ns, ok, A2, c2, A5, c5, H, hT, hdis, hroom => by
    have hv := hI v (by simp)
    have hwl : wL (v :: vs) = 2 + wN v + wL vs := rfl
    have hnl := numLw_len v l
    have hpl := putLw_len vs (numLw v l)
    have hln : l.length ≤ n := H.ar.2.2.1
    have hn : n ≤ 32768 := H.ar.2.2.2.1
    obtain ⟨q, hq⟩ : ∃ q, w.heap.size = q := ⟨_, rfl⟩
    have ec : cellsT (LI (v :: vs)) A2 c2 A5 c5 = #[.int .i64 4, .bool false, .slice A2 0 c2, .string ⟨#[]⟩, .int .i64 0, .slice A5 2 c5] := rfl
    obtain ⟨W, hW⟩ : ∃ W, w.alloc (.cells #[.int .i64 4, .bool false, .slice A2 0 c2, .string ⟨#[]⟩, .int .i64 0, .slice A5 2 c5] 43) = W := ⟨_, rfl⟩
    have hg0 : W.heap[q]? = some (.cells #[.int .i64 4, .bool false, .slice A2 0 c2, .string ⟨#[]⟩, .int .i64 0, .slice A5 2 c5] 43 (0, 0)) := by rw [← hW, ← hq]; exact heap_alloc_new _ _
    have hb : Below w.heap.size w W := by rw [← hW]; exact below_alloc (Below.refl _ _) _
    have HA := Aside0.mk (all_two W B h g gw m u l (numLw v l) (putLw vs (numLw v l)) n ns ok v vs (numWw v l) (putWw vs (numLw v l)) A2 c2 A5 c5 (H.below hb) (hT.below hb) hdis
      (fun W1 B2 d2 B5 d5 h1 h2 => put_int W1 B h g gw m u l n ns ok v hv.1 hv.2 B2 d2 B5 d5 h1 h2 (by omega))
      (fun W1 B2 d2 B5 d5 h1 h2 => put_list vs (fun x hx => hI x (by simp [hx])) W1 B h g gw m u (numLw v l) n ns ok B2 d2 B5 d5 h1 h2 hdis (by omega)))
    have e3 : objL (putLw vs (numLw v l)) n [numWw v l, putWw vs (numLw v l)] = putLw (v :: vs) l := by
      unfold objL
      rw [if_pos (by simp; omega), putLw_cons]
    have e4 : objR 1 (putLw vs (numLw v l)) n [numWw v l, putWw vs (numLw v l)] = (putWw (v :: vs) l, true) := by
      unfold objR
      rw [if_pos (by simp; omega), putWw_cons]
    have hw64 : W64 [numWw v l, putWw vs (numLw v l)] := by
      intro x hx
      have a1 := numWw_bd v l (by omega)
      have a2 := putWw_bd vs (numLw v l) (by omega)
      simp at hx
      rcases hx with rfl | rfl
      · exact a1
      · exact a2
    rw [ec]
    have HOB := Aside0.mk (fun (W1 : World) (A : Option Addr) (c : Nat) (h1 : Hp B W1 h g gw m u (putLw vs (numLw v l)) n ns) (hr : ReadsInt W1 .u64 A 2 [numWw v l, putWw vs (numLw v l)]) (hc : 2 ≤ c) (hna : ∀ ad, A = some ad → ad.block ≠ g ∧ ad.block ≠ gw) => object_calls W1 B h g gw m u (putLw vs (numLw v l)) n ns 1 A c [numWw v l, putWw vs (numLw v l)] h1 (.inl rfl) hr hc hna hw64)
    rw [e3, e4] at HOB
    obtain ⟨b0, b1, b2, b3, b4, b5⟩ := six_cells hg0
    have HB := Aside0.mk hb
    have HLT := Aside0.mk (And.intro H.ar.lt.1 H.ar.lt.2)
    generalize putLw (v :: vs) l = L3 at HOB ⊢
    generalize putWw (v :: vs) l = X3 at HOB ⊢
    clear e3 e4 hw64 hg0 hb H hT hdis hroom hwl hnl hpl hln hn hv hI ec
    generalize putWw vs (numLw v l) = X2 at HA HOB
    generalize putLw vs (numLw v l) = L2 at HA HOB
    generalize numWw v l = X1 at HA HOB
    go_enter Try.func67, Try.ntmps67
    go_wp2_with fail
    refine HA.out.mono ?_
    rintro e w1 ⟨A, c, rfl, hc, hr, hba, hh, hm⟩
    have M1 := (Mods.of_below (SH h g gw m u) HB.out).trans hm
    have HO1 := Aside0.mk (HOB.out w1 A c hh hr hc (fun ad e => by have h1 := hba ad e; have h2 := HLT.out; have h3 := HB.out.size; omega))
    have HM1 := Aside0.mk M1
    clear hc hr hba hh hm M1 HA HOB b0 b1 b2 b3 b4 b5 hW
    go_wp2_with fail
    refine HO1.out.mono ?_
    rintro e w2 ⟨rfl, hh, hm⟩
    have HF := Aside0.mk (And.intro hh (HM1.out.trans hm))
    clear hh hm
    go_wp2_with fail
    go_ret2
    exact ⟨rfl, HF.out⟩
end Go.Proofs.YtlifdpfhepamfaaHu
