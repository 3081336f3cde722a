/- Lists of numbers as terms: they may be put; how many words they take. -/
import Derived.Test.YtlifdpfhepamfaaHo
import Derived.Test.YtlifdpfhepamfaaPHe5
namespace Go.Proofs.YtlifdpfhepamfaaHt
open Go.RowKit Go.Maps Go.Proofs.YtlifdpfhepamfaaW.PrintWords Go.Proofs.YtlifdpfhepamfaaW.PrintLast Go.Proofs.YtlifdpfhepamfaaW.PrintMore Go.Proofs.YtlifdpfhepamfaaMem Go.Proofs.YtlifdpfhepamfaaLeaf Go.Proofs.YtlifdpfhepamfaaBits Go.Proofs.Ytlifdpfhepamfaa.PHe Go.Proofs.YtlifdpfhepamfaaRow Go.Proofs.YtlifdpfhepamfaaAr Go.Proofs.YtlifdpfhepamfaaHp Go.Proofs.YtlifdpfhepamfaaHn Go.Proofs.YtlifdpfhepamfaaHo Go.Proofs
set_option linter.unusedVariables false
set_option linter.unusedSimpArgs false
abbrev TT := S43
/-- A number's limbs; a number as a term; a list of numbers. -/
def absL (v : Int) : List Int := limbs (if v < 0 then -v else v)
def IN (v : Int) : TT := ⟨1, ⟨decide (v < 0), absL v⟩, ⟨#[]⟩, 0, []⟩
def LI : List Int → TT
  | [] => ⟨3, ⟨false, []⟩, ⟨#[]⟩, 0, []⟩
  | v :: vs => ⟨4, ⟨false, []⟩, ⟨#[]⟩, 0, [IN v, LI vs]⟩
/-- A term's cells, and what they lead to. -/
def cellsT (x : TT) (A2 : Option Addr) (c2 : Nat) (A5 : Option Addr) (c5 : Nat) : Array Value := #[.int .i64 x.f0, .bool x.f1.f0, .slice A2 x.f1.f1.length c2, .string x.f2, .int .i64 x.f3, .slice A5 x.f4.length c5]
def TF (W : World) (ok : Nat → Prop) (x : TT) (A2 : Option Addr) (c2 : Nat) (A5 : Option Addr) (c5 : Nat) : Prop :=
  Kd.F (Kd.int .u32) W ok A2 x.f1.f1.length x.f1.f1 ∧ x.f1.f1.length ≤ c2 ∧ Kd.F k43 W ok A5 x.f4.length x.f4 ∧ x.f4.length ≤ c5
theorem TF.step {W W1 : World} {ok : Nat → Prop} {x : TT} {A2 : Option Addr} {c2 : Nat} {A5 : Option Addr} {c5 : Nat} (h : TF W ok x A2 c2 A5 c5) (hm : ∀ k, ok k → k < W.heap.size → W1.heap[k]? = W.heap[k]?) : TF W1 ok x A2 c2 A5 c5 :=
  ⟨Kd.F_step h.1 hm, h.2.1, Kd.F_step h.2.2.1 hm, h.2.2.2⟩
theorem TF.below {W W1 : World} {ok : Nat → Prop} {x : TT} {A2 : Option Addr} {c2 : Nat} {A5 : Option Addr} {c5 : Nat} (h : TF W ok x A2 c2 A5 c5) (hb : Below W.heap.size W W1) : TF W1 ok x A2 c2 A5 c5 := h.step (fun k _ hlt => hb.block k hlt)
/-- A kid's cells. -/
theorem TF.kid {W : World} {ok : Nat → Prop} {x : TT} {A2 : Option Addr} {c2 : Nat} {A5 : Option Addr} {c5 : Nat} (h : TF W ok x A2 c2 A5 c5) (i : Nat) (hi : i < x.f4.length) :
    ∃ ad B2 d2 B5 d5, A5 = some ad ∧ TF W ok (x.f4.getD i z43) B2 d2 B5 d5 ∧ ∀ j u, [Value.int .i64 (x.f4.getD i z43).f0, .bool (x.f4.getD i z43).f1.f0, .slice B2 (x.f4.getD i z43).f1.f1.length d2, .string (x.f4.getD i z43).f2, .int .i64 (x.f4.getD i z43).f3, .slice B5 (x.f4.getD i z43).f4.length d5][j]? = some u → W.cell? (ad.add (i * 6 + j)) = some u := by
  obtain ⟨ad, cs, e, hl, hK, hc, _⟩ := Kd.F_get h.2.2.1 z43 (i : Int) (by omega) (by omega)
  rw [Int.toNat_natCast] at hK hc
  obtain ⟨B2, d2, B5, d5, rfl, l2, g2, l5, g5⟩ := k43_openF hK
  exact ⟨ad, B2, d2, B5, d5, e, ⟨g2, l2, g5, l5⟩, hc⟩
/-- Six cells of a term in a row. -/
def Six (W : World) (p : Addr) (x : TT) (B2 : Option Addr) (d2 : Nat) (B5 : Option Addr) (d5 : Nat) : Prop :=
  W.cell? p = some (.int .i64 x.f0) ∧ W.cell? ⟨p.block, p.off + 1, none⟩ = some (.bool x.f1.f0) ∧ W.cell? ⟨p.block, p.off + 2, none⟩ = some (.slice B2 x.f1.f1.length d2) ∧ W.cell? ⟨p.block, p.off + 3, none⟩ = some (.string x.f2) ∧ W.cell? ⟨p.block, p.off + 4, none⟩ = some (.int .i64 x.f3) ∧ W.cell? ⟨p.block, p.off + 5, none⟩ = some (.slice B5 x.f4.length d5)
theorem add_field_ (ad : Addr) (n j : Nat) (hj : 0 < j) : ad.add (n + j) = ⟨(ad.add n).block, (ad.add n).off + j, none⟩ := by
  unfold Addr.add
  by_cases h : n = 0
  · subst h
    rw [if_neg (by omega), if_pos rfl, Nat.zero_add]
  · rw [if_neg (by omega), if_neg h]
    simp [Nat.add_assoc]
theorem TF.six {W : World} {ok : Nat → Prop} {x : TT} {A2 : Option Addr} {c2 : Nat} {A5 : Option Addr} {c5 : Nat} (h : TF W ok x A2 c2 A5 c5) (i : Nat) (hi : i < x.f4.length) : ∃ ad B2 d2 B5 d5, A5 = some ad ∧ TF W ok (x.f4.getD i z43) B2 d2 B5 d5 ∧ Six W (ad.add (i * 6)) (x.f4.getD i z43) B2 d2 B5 d5 := by
  obtain ⟨ad, B2, d2, B5, d5, e, ht, hc⟩ := h.kid i hi
  refine ⟨ad, B2, d2, B5, d5, e, ht, hc 0 _ rfl, ?_, ?_, ?_, ?_, ?_⟩
  · rw [← add_field_ _ _ 1 (by omega)]; exact hc 1 _ rfl
  · rw [← add_field_ _ _ 2 (by omega)]; exact hc 2 _ rfl
  · rw [← add_field_ _ _ 3 (by omega)]; exact hc 3 _ rfl
  · rw [← add_field_ _ _ 4 (by omega)]; exact hc 4 _ rfl
  · rw [← add_field_ _ _ 5 (by omega)]; exact hc 5 _ rfl
theorem Six.below {W W1 : World} {p : Addr} {x : TT} {B2 : Option Addr} {d2 : Nat} {B5 : Option Addr} {d5 : Nat} (h : Six W p x B2 d2 B5 d5) (hb : Below W.heap.size W W1) : Six W1 p x B2 d2 B5 d5 :=
  ⟨pw_cell_below hb h.1, pw_cell_below hb h.2.1, pw_cell_below hb h.2.2.1, pw_cell_below hb h.2.2.2.1, pw_cell_below hb h.2.2.2.2.1, pw_cell_below hb h.2.2.2.2.2⟩
theorem six_put {w : World} {g : Nat} {a b c d e f a' b' c' d' e' f' : Value} {t : TypeId} (h : w.heap[g]? = some (.cells #[a, b, c, d, e, f] t (0, 0))) :
    ((((((w.setCell ⟨g, 0, none⟩ a').setCell ⟨g, 1, none⟩ b').setCell ⟨g, 2, none⟩ c').setCell ⟨g, 3, none⟩ d').setCell ⟨g, 4, none⟩ e').setCell ⟨g, 5, none⟩ f').heap[g]? = some (.cells #[a', b', c', d', e', f'] t (0, 0)) :=
  blk_put (blk_put (blk_put (blk_put (blk_put (blk_put h 0 a' rfl) 1 b' rfl) 2 c' rfl) 3 d' rfl) 4 e' rfl) 5 f' rfl
theorem below_six {w W : World} {g : Nat} {a b c d e f : Value} (h : Below w.heap.size w W) (hg : w.heap.size ≤ g) : Below w.heap.size w ((((((W.setCell ⟨g, 0, none⟩ a).setCell ⟨g, 1, none⟩ b).setCell ⟨g, 2, none⟩ c).setCell ⟨g, 3, none⟩ d).setCell ⟨g, 4, none⟩ e).setCell ⟨g, 5, none⟩ f) :=
  (((((h.setCell hg _).setCell hg _).setCell hg _).setCell hg _).setCell hg _).setCell hg _
set_option maxHeartbeats 4000000 in
set_option maxRecDepth 100000 in
/-- A number, nothing: they may be. -/
theorem may_flat (w : World) (x : TT) (A2 : Option Addr) (c2 : Nat) (A5 : Option Addr) (c5 : Nat) (hx : x.f0 = 1 ∨ x.f0 = 3) :
    Calls Try.prog 65 #[.agg (cellsT x A2 c2 A5 c5)] w fun e w' => e = .returned (.bool true) ∧ Below w.heap.size w w' := by
  have hu := Try.underlying43
  obtain ⟨g, hg⟩ : ∃ g, w.heap.size = g := ⟨_, rfl⟩
  obtain ⟨W, hW⟩ : ∃ W, w.alloc (.cells (cellsT x A2 c2 A5 c5) 43) = W := ⟨_, rfl⟩
  have h0 : W.heap[g]? = some (.cells (cellsT x A2 c2 A5 c5) 43 (0, 0)) := by rw [← hW, ← hg]; exact heap_alloc_new _ _
  have hb : Below w.heap.size w W := by rw [← hW]; exact below_alloc (Below.refl _ _) _
  unfold cellsT at hW h0 ⊢
  obtain ⟨b0, b1, b2, b3, b4, b5⟩ := six_cells h0
  have HB := Aside0.mk hb
  obtain ⟨k, hk⟩ : ∃ k, x.f0 = k := ⟨_, rfl⟩
  rw [hk] at hx hW b0 h0 ⊢
  have H0 := Aside0.mk h0
  clear h0 hb hk
  rcases hx with rfl | rfl
  all_goals
    go_enter Try.func65, Try.ntmps65
    go_wp2_with fail
    go_loopg [3] 1 (fun q v3 wr => q = 1 ∧ Aside0 (wr = W))
    case atStart => exact ⟨rfl, ⟨rfl⟩⟩
    case round =>
      obtain ⟨rfl, HWR⟩ := hrel
      have hwr := HWR.out
      subst hwr
      clear HWR
      go_wp2_with fail
      go_ret
      exact ⟨rfl, by first | exact HB.out | (rw [← hg]; exact HB.out)⟩
theorem LI_kids {W : World} {ok : Nat → Prop} {v : Int} {vs : List Int} {A2 : Option Addr} {c2 : Nat} {A5 : Option Addr} {c5 : Nat} (h : TF W ok (LI (v :: vs)) A2 c2 A5 c5) :
    ∃ ad B2 d2 B5 d5 E2 e2 E5 e5, A5 = some ad ∧ TF W ok (IN v) B2 d2 B5 d5 ∧ Six W ad (IN v) B2 d2 B5 d5 ∧ TF W ok (LI vs) E2 e2 E5 e5 ∧ Six W ⟨ad.block, ad.off + 6, none⟩ (LI vs) E2 e2 E5 e5 := by
  obtain ⟨ad, B2, d2, B5, d5, e, ht, hs⟩ := h.six 0 (by simp [LI])
  obtain ⟨ad', E2, e2, E5, e5, e', ht', hs'⟩ := h.six 1 (by simp [LI])
  rw [e] at e'
  injection e' with e'
  subst e'
  have h0 : (LI (v :: vs)).f4.getD 0 z43 = IN v := rfl
  have h1 : (LI (v :: vs)).f4.getD 1 z43 = LI vs := rfl
  have a0 : ad.add (0 * 6) = ad := rfl
  have a1 : ad.add (1 * 6) = ⟨ad.block, ad.off + 6, none⟩ := rfl
  rw [h0] at ht hs
  rw [h1] at ht' hs'
  rw [a0] at hs
  rw [a1] at hs'
  exact ⟨ad, B2, d2, B5, d5, E2, e2, E5, e5, e, ht, hs, ht', hs'⟩
set_option maxHeartbeats 8000000 in
set_option maxRecDepth 100000 in
/-- A list of numbers may be put. -/
theorem may_list (w : World) (ok : Nat → Prop) (xs : List Int) (A2 : Option Addr) (c2 : Nat) (A5 : Option Addr) (c5 : Nat) (h : TF w ok (LI xs) A2 c2 A5 c5) :
    Calls Try.prog 65 #[.agg (cellsT (LI xs) A2 c2 A5 c5)] w fun e w' => e = .returned (.bool true) ∧ Below w.heap.size w w' := by
  have hu := Try.underlying43
  obtain ⟨g, hg⟩ : ∃ g, w.heap.size = g := ⟨_, rfl⟩
  obtain ⟨W, hW⟩ : ∃ W, w.alloc (.cells (cellsT (LI xs) A2 c2 A5 c5) 43) = W := ⟨_, rfl⟩
  have h0 : W.heap[g]? = some (.cells (cellsT (LI xs) A2 c2 A5 c5) 43 (0, 0)) := by rw [← hW, ← hg]; exact heap_alloc_new _ _
  have hb : Below w.heap.size w W := by rw [← hW]; exact below_alloc (Below.refl _ _) _
  have H0 := Aside0.mk (And.intro h0 hb)
  have HT := Aside0.mk h
  obtain ⟨vA, hvA⟩ : ∃ vA : Value, .agg (cellsT (LI xs) A2 c2 A5 c5) = vA := ⟨_, rfl⟩
  obtain ⟨oA, hoA⟩ : ∃ oA : Obj, .cells (cellsT (LI xs) A2 c2 A5 c5) 43 = oA := ⟨_, rfl⟩
  have HG := Aside0.mk (show w.heap.size ≤ g by omega)
  unfold cellsT at hW ⊢
  clear h0 hb h hvA hoA
  go_enter Try.func65, Try.ntmps65
  go_wp2_with fail
  go_loopg [3] (xs.length + 1) (fun q v3 wr => ∃ (ys : List Int) (A2 : Option Addr) (c2 : Nat) (A5 : Option Addr) (c5 : Nat), q = ys.length + 1 ∧ Aside0 (TF w ok (LI ys) A2 c2 A5 c5) ∧ Aside0 (wr.heap[g]? = some (.cells (cellsT (LI ys) A2 c2 A5 c5) 43 (0, 0)) ∧ Below w.heap.size w wr))
  case atStart => exact ⟨xs, A2, c2, A5, c5, rfl, HT, H0⟩
  case round =>
    clear hW HT H0
    obtain ⟨ys, A2, c2, A5, c5, rfl, HT, H0⟩ := hrel
    cases ys with
    | nil =>
      obtain ⟨b0, b1, b2, b3, b4, b5⟩ := six_cells (show wr.heap[g]? = some (.cells #[.int .i64 3, .bool false, .slice A2 0 c2, .string ⟨#[]⟩, .int .i64 0, .slice A5 0 c5] 43 (0, 0)) from H0.out.1)
      go_wp2_with fail
      go_ret
      exact ⟨rfl, by first | exact H0.out.2 | (rw [← hg]; exact H0.out.2)⟩
    | cons v vs =>
      obtain ⟨b0, b1, b2, b3, b4, b5⟩ := six_cells (show wr.heap[g]? = some (.cells #[.int .i64 4, .bool false, .slice A2 0 c2, .string ⟨#[]⟩, .int .i64 0, .slice A5 2 c5] 43 (0, 0)) from H0.out.1)
      obtain ⟨ad, B2, d2, B5, d5, E2, e2, E5, e5, rfl, hk1, hs1, hk2, hs2⟩ := LI_kids HT.out
      have hc5 : 2 ≤ c5 := HT.out.2.2.2
      have HS1 := Aside0.mk hs1
      have HS2 := Aside0.mk hs2
      have HK1 := Aside0.mk hk1
      have HK2 := Aside0.mk hk2
      have hcc : (2 : Int) ≤ (c5 : Int) := by omega
      clear hs1 hs2 hk1 hk2 HT
      go_wp2_with fail
      go_loopg [34] 2 (fun q v34 wr2 => ∃ i : Nat, v34 = .int .i64 i ∧ i ≤ 1 ∧ q = 2 - i ∧ Aside0 (wr2.heap[g]? = some (.cells #[.int .i64 4, .bool false, .slice A2 0 c2, .string ⟨#[]⟩, .int .i64 0, .slice (some ad) 2 c5] 43 (0, 0)) ∧ Below w.heap.size w wr2))
      case atStart => exact ⟨0, rfl, by omega, rfl, H0⟩
      case round =>
        obtain ⟨i, rfl, hi, rfl, HI⟩ := hrel
        clear b0 b1 b2 b3 b4 b5
        by_cases hlt : i < 1
        · obtain rfl : i = 0 := by omega
          obtain ⟨s0, s1, s2, s3, s4, s5⟩ := HS1.out.below HI.out.2
          obtain ⟨g5, hg5⟩ : ∃ g5, wr.heap.size = g5 := ⟨_, rfl⟩
          obtain ⟨W5, hW5⟩ : ∃ W5, wr.alloc (.cells #[.int .i64 0, .bool false, .slice none 0 0, .string ⟨#[]⟩, .int .i64 0, .slice none 0 0] 43) = W5 := ⟨_, rfl⟩
          have n5 : W5.heap[g5]? = some (.cells #[.int .i64 0, .bool false, .slice none 0 0, .string ⟨#[]⟩, .int .i64 0, .slice none 0 0] 43 (0, 0)) := by rw [← hW5, ← hg5]; exact heap_alloc_new _ _
          have m5 := six_put (a' := .int .i64 (IN v).f0) (b' := .bool (IN v).f1.f0) (c' := .slice B2 (IN v).f1.f1.length d2) (d' := .string (IN v).f2) (e' := .int .i64 (IN v).f3) (f' := .slice B5 (IN v).f4.length d5) n5
          obtain ⟨p0, p1, p2, p3, p4, p5⟩ := six_cells n5
          obtain ⟨z0, z1, z2, z3, z4, z5⟩ := six_live n5
          obtain ⟨W6, hW6⟩ : ∃ W6, (((((W5.setCell ⟨g5, 0, none⟩ (.int .i64 (IN v).f0)).setCell ⟨g5, 1, none⟩ (.bool (IN v).f1.f0)).setCell ⟨g5, 2, none⟩ (.slice B2 (IN v).f1.f1.length d2)).setCell ⟨g5, 3, none⟩ (.string (IN v).f2)).setCell ⟨g5, 4, none⟩ (.int .i64 (IN v).f3)).setCell ⟨g5, 5, none⟩ (.slice B5 (IN v).f4.length d5) = W6 := ⟨_, rfl⟩
          rw [hW6] at m5
          obtain ⟨r0, r1, r2, r3, r4, r5⟩ := six_cells m5
          have HB6 : Aside0 (Below w.heap.size w W6 ∧ W6.heap[g]? = some (.cells #[.int .i64 4, .bool false, .slice A2 0 c2, .string ⟨#[]⟩, .int .i64 0, .slice (some ad) 2 c5] 43 (0, 0))) := ⟨by
            have hle : wr.heap.size ≤ g5 := by omega
            have hb5 : Below wr.heap.size wr W6 := by rw [← hW6]; exact below_six (by rw [← hW5]; exact below_alloc (Below.refl _ _) _) hle
            exact ⟨below_step HI.out.2 hb5, (hb5.block _ (blk_lt HI.out.1)).trans HI.out.1⟩⟩
          clear n5 m5
          go_wp2_with fail
          refine (may_flat W6 (IN v) B2 d2 B5 d5 (.inl rfl)).mono ?_
          rintro e w7 ⟨rfl, hb⟩
          have HI7 := Aside0.mk (And.intro ((hb.block _ (blk_lt HB6.out.2)).trans HB6.out.2) (below_step HB6.out.1 hb))
          clear hb p0 p1 p2 p3 p4 p5 z0 z1 z2 z3 z4 z5 r0 r1 r2 r3 r4 r5 s0 s1 s2 s3 s4 s5 hW6 hW5
          go_wp2_with fail
          go_roundg (2 - 1)
          case measure => omega
          case rel => exact ⟨1, by go_num, by omega, rfl, HI7⟩
        · obtain rfl : i = 1 := by omega
          obtain ⟨b0, b1, b2, b3, b4, b5⟩ := six_cells HI.out.1
          obtain ⟨f0, f1, f2, f3, f4, f5⟩ := six_live HI.out.1
          obtain ⟨s0, s1, s2, s3, s4, s5⟩ := HS2.out.below HI.out.2
          have m1 := six_put (a' := .int .i64 (LI vs).f0) (b' := .bool (LI vs).f1.f0) (c' := .slice E2 (LI vs).f1.f1.length e2) (d' := .string (LI vs).f2) (e' := .int .i64 (LI vs).f3) (f' := .slice E5 (LI vs).f4.length e5) HI.out.1
          have HM := Aside0.mk (And.intro m1 (below_six HI.out.2 HG.out (a := .int .i64 (LI vs).f0) (b := .bool (LI vs).f1.f0) (c := .slice E2 (LI vs).f1.f1.length e2) (d := .string (LI vs).f2) (e := .int .i64 (LI vs).f3) (f := .slice E5 (LI vs).f4.length e5)))
          clear m1
          go_wp2_with fail
          go_roundg (vs.length + 1)
          case measure => simp
          case rel => exact ⟨vs, E2, e2, E5, e5, rfl, HK2, HM⟩
end Go.Proofs.YtlifdpfhepamfaaHt
