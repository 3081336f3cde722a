/- How many words a list of numbers takes. -/
import Derived.Test.YtlifdpfhepamfaaHt
namespace Go.Proofs.YtlifdpfhepamfaaHw
open Go.RowKit Go.Maps Go.Proofs.YtlifdpfhepamfaaW.PrintWords Go.Proofs.YtlifdpfhepamfaaW.PrintLast Go.Proofs.YtlifdpfhepamfaaW.PrintMore Go.Proofs.YtlifdpfhepamfaaMem Go.Proofs.YtlifdpfhepamfaaLeaf Go.Proofs.YtlifdpfhepamfaaBits Go.Proofs.Ytlifdpfhepamfaa.PHe Go.Proofs.YtlifdpfhepamfaaRow Go.Proofs.YtlifdpfhepamfaaAr Go.Proofs.YtlifdpfhepamfaaHp Go.Proofs.YtlifdpfhepamfaaHn Go.Proofs.YtlifdpfhepamfaaHo Go.Proofs.YtlifdpfhepamfaaHt Go.Proofs
set_option linter.unusedVariables false
set_option linter.unusedSimpArgs false
theorem check_any (neg : Bool) (xs : List Int) (hl : xs.length ≤ 12) (hn : neg = true → 0 < xs.length) (hz : 0 < xs.length → xs.getD (xs.length - 1) 0 ≠ 0) : num_Check.f neg xs = some true := by
  unfold num_Check.f
  by_cases h0 : xs.length = 0
  · have hneg : neg = false := by
      cases neg with
      | false => rfl
      | true => have := hn rfl; omega
    subst hneg
    rw [if_pos (by omega), if_pos (by omega), if_neg (by simp)]
  · have e : wrap64 ((xs.length : Int) - 1) = ((xs.length - 1 : Nat) : Int) := by unfold wrap64; omega
    rw [if_pos (by omega), if_neg (by omega), if_pos (by omega), e, if_pos (by omega), if_pos (by omega)]
    have := hz (by omega)
    unfold rd
    simpa using this
theorem check_IN (v : Int) (h0 : -9223372036854775808 ≤ v) (h1 : v < 9223372036854775808) : num_Check.f (decide (v < 0)) (absL v) = some true := by
  obtain ⟨u, hu⟩ : ∃ u, (if v < 0 then -v else v) = u := ⟨_, rfl⟩
  have hub : 0 ≤ u ∧ u < 18446744073709551616 ∧ (v < 0 → 0 < u) := by rw [← hu]; split <;> omega
  unfold absL
  rw [hu]
  refine check_any _ _ (by have := limbs_len u; omega) (fun h => ?_) (fun h => ?_)
  · have := hub.2.2 (by simpa using h)
    unfold limbs; rw [if_neg (by omega)]; split <;> simp
  · unfold limbs at h ⊢
    by_cases h2 : u = 0
    · rw [if_pos h2] at h; simp at h
    · rw [if_neg h2] at h ⊢
      by_cases h3 : u < 4294967296
      · rw [if_pos h3]; simpa using h2
      · rw [if_neg h3]; simp; omega
theorem u32_IN (v : Int) (h0 : -9223372036854775808 ≤ v) (h1 : v < 9223372036854775808) : U32 (absL v) := by
  obtain ⟨u, hu⟩ : ∃ u, (if v < 0 then -v else v) = u := ⟨_, rfl⟩
  have hub : 0 ≤ u ∧ u < 18446744073709551616 := by rw [← hu]; split <;> omega
  unfold absL
  rw [hu]
  unfold limbs
  intro i
  split
  · simp
  · split
    · match i with
      | 0 => simp; omega
      | i + 1 => simp
    · match i with
      | 0 => simp; omega
      | 1 => simp; omega
      | i + 2 => simp
/-- Numbers that a machine holds. -/
def I64 (xs : List Int) : Prop := ∀ x, x ∈ xs → -9223372036854775808 ≤ x ∧ x < 9223372036854775808
def wN (v : Int) : Nat := if smallN true (decide (v < 0)) (absL v) then 0 else 1 + (absL v).length
def wL : List Int → Nat
  | [] => 0
  | v :: vs => 2 + wN v + wL vs
theorem wN_le (v : Int) : wN v ≤ 3 := by
  have : (absL v).length ≤ 2 := limbs_len _
  unfold wN; split <;> omega
theorem wL_le (xs : List Int) : wL xs ≤ 5 * xs.length := by
  induction xs with
  | nil => simp [wL]
  | cons v vs ih => have := wN_le v; simp only [wL, List.length_cons]; omega
set_option maxHeartbeats 4000000 in
set_option maxRecDepth 100000 in
theorem own_plain (w : World) (x : TT) (A2 : Option Addr) (c2 : Nat) (A5 : Option Addr) (c5 : Nat) (r : Int) (hx : (x.f0 = 3 ∧ r = 0) ∨ (x.f0 = 4 ∧ r = 2)) :
    Calls Try.prog 115 #[.agg (cellsT x A2 c2 A5 c5)] w fun e w' => e = .returned (.int .i64 r) ∧ Below w.heap.size w w' := by
  obtain ⟨g, hg⟩ : ∃ g, w.heap.size = g := ⟨_, rfl⟩
  obtain ⟨W, hW⟩ : ∃ W, w.alloc (.cells (cellsT x A2 c2 A5 c5) 43) = W := ⟨_, rfl⟩
  have h0 : W.heap[g]? = some (.cells (cellsT x A2 c2 A5 c5) 43 (0, 0)) := by rw [← hW, ← hg]; exact heap_alloc_new _ _
  have hb : Below w.heap.size w W := by rw [← hW]; exact below_alloc (Below.refl _ _) _
  unfold cellsT at hW h0 ⊢
  obtain ⟨b0, b1, b2, b3, b4, b5⟩ := six_cells h0
  have HB := Aside0.mk hb
  obtain ⟨k, hk⟩ : ∃ k, x.f0 = k := ⟨_, rfl⟩
  rw [hk] at hx hW b0 h0 ⊢
  clear h0 hb hk
  rcases hx with ⟨rfl, rfl⟩ | ⟨rfl, rfl⟩
  all_goals
    go_enter Try.func115, Try.ntmps115
    go_wp2_with fail
    go_ret
    exact ⟨rfl, by first | exact HB.out | (rw [← hg]; exact HB.out)⟩
set_option maxHeartbeats 4000000 in
set_option maxRecDepth 100000 in
theorem own_int (w : World) (ok : Nat → Prop) (v : Int) (h0 : -9223372036854775808 ≤ v) (h1 : v < 9223372036854775808) (A2 : Option Addr) (c2 : Nat) (A5 : Option Addr) (c5 : Nat) (h : TF w ok (IN v) A2 c2 A5 c5) :
    Calls Try.prog 115 #[.agg (cellsT (IN v) A2 c2 A5 c5)] w fun e w' => e = .returned (.int .i64 (wN v : Nat)) ∧ Below w.heap.size w w' := by
  obtain ⟨g, hg⟩ : ∃ g, w.heap.size = g := ⟨_, rfl⟩
  obtain ⟨ng, hng⟩ : ∃ ng, decide (v < 0) = ng := ⟨_, rfl⟩
  obtain ⟨xs, hxs⟩ : ∃ xs, absL v = xs := ⟨_, rfl⟩
  have hxl : xs.length ≤ 2 := by rw [← hxs]; exact limbs_len _
  have hck := check_IN v h0 h1
  have hu := u32_IN v h0 h1
  have hr : Kd.C (Kd.int .u32) w A2 (absL v).length (absL v) := Kd.F_now h.1
  have hc : (absL v).length ≤ c2 := h.2.1
  have ec : cellsT (IN v) A2 c2 A5 c5 = #[.int .i64 1, .bool ng, .slice A2 xs.length c2, .string ⟨#[]⟩, .int .i64 0, .slice A5 0 c5] := by rw [← hng, ← hxs]; rfl
  have ew : wN v = if smallN true ng xs then 0 else 1 + xs.length := by rw [← hng, ← hxs]; rfl
  rw [hng, hxs] at hck
  rw [hxs] at hu hr hc
  rw [ec, ew]
  clear ec ew hng hxs h
  obtain ⟨W, hW⟩ : ∃ W, w.alloc (.cells #[.int .i64 1, .bool ng, .slice A2 xs.length c2, .string ⟨#[]⟩, .int .i64 0, .slice A5 0 c5] 43) = W := ⟨_, rfl⟩
  have hg0 : W.heap[g]? = some (.cells #[.int .i64 1, .bool ng, .slice A2 xs.length c2, .string ⟨#[]⟩, .int .i64 0, .slice A5 0 c5] 43 (0, 0)) := by rw [← hW, ← hg]; exact heap_alloc_new _ _
  have hb : Below w.heap.size w W := by rw [← hW]; exact below_alloc (Below.refl _ _) _
  have HS := Aside0.mk (small_calls W ng A2 c2 xs true (Kd.C_below hr hb) hc hck hu)
  obtain ⟨b0, b1, b2, b3, b4, b5⟩ := six_cells hg0
  have HB := Aside0.mk hb
  have H0 := Aside0.mk hg0
  have hu43 := Try.underlying41
  clear hg0 hb hck hu hr hc
  cases hsm : smallN true ng xs
  all_goals
    rw [hsm] at HS
    clear hsm
    go_enter Try.func115, Try.ntmps115
    go_wp2_with fail
    refine HS.out.mono ?_
    rintro e w1 ⟨rfl, hb⟩
    obtain ⟨d0, d1, d2, d3, d4, d5⟩ := six_cells ((hb.block _ (blk_lt H0.out)).trans H0.out)
    have HB1 := Aside0.mk (below_step HB.out hb)
    clear hb b0 b1 b2 b3 b4 b5
    go_wp2_with fail
    go_ret
    exact ⟨by first | rfl | (simp; done) | (congr 1; simp; done), by first | exact HB1.out | (rw [← hg]; exact HB1.out)⟩
set_option maxHeartbeats 4000000 in
set_option maxRecDepth 100000 in
/-- A term without kids. -/
theorem Words_leaf (w : World) (x : TT) (A2 : Option Addr) (c2 : Nat) (A5 : Option Addr) (c5 : Nat) (r : Int) (hx : x.f4 = [])
    (hown : ∀ W, Below w.heap.size w W → Calls Try.prog 115 #[.agg (cellsT x A2 c2 A5 c5)] W fun e w' => e = .returned (.int .i64 r) ∧ Below W.heap.size W w') :
    Calls Try.prog 66 #[.agg (cellsT x A2 c2 A5 c5)] w fun e w' => e = .returned (.int .i64 r) ∧ Below w.heap.size w w' := by
  have hu := Try.underlying43
  obtain ⟨g, hg⟩ : ∃ g, w.heap.size = g := ⟨_, rfl⟩
  obtain ⟨W, hW⟩ : ∃ W, w.alloc (.cells (cellsT x A2 c2 A5 c5) 43) = W := ⟨_, rfl⟩
  have h0 : W.heap[g]? = some (.cells (cellsT x A2 c2 A5 c5) 43 (0, 0)) := by rw [← hW, ← hg]; exact heap_alloc_new _ _
  have hb : Below w.heap.size w W := by rw [← hW]; exact below_alloc (Below.refl _ _) _
  have HO := Aside0.mk (hown W hb)
  have hl : x.f4.length = 0 := by rw [hx]; rfl
  unfold cellsT at hW h0 HO ⊢
  rw [hl] at hW h0 HO ⊢
  have H0 := Aside0.mk h0
  obtain ⟨b0, b1, b2, b3, b4, b5⟩ := six_cells h0
  have HB := Aside0.mk hb
  clear h0 hb hown hx hl
  go_enter Try.func66, Try.ntmps66
  go_wp2_with fail
  refine HO.out.mono ?_
  rintro e w1 ⟨rfl, hb⟩
  obtain ⟨d0, d1, d2, d3, d4, d5⟩ := six_cells ((hb.block _ (blk_lt H0.out)).trans H0.out)
  have HB1 := Aside0.mk (below_step HB.out hb)
  clear hb b0 b1 b2 b3 b4 b5 HO hW
  go_wp2_with fail
  go_loopg [3, 11] 1 (fun q v3 v11 wr => q = 1 ∧ v3 = .int .i64 r ∧ v11 = .int .i64 0 ∧ Aside0 (Below w.heap.size w wr))
  case atStart => exact ⟨rfl, rfl, rfl, by first | exact HB1 | exact ⟨by rw [hg]; exact HB1.out⟩⟩
  case round =>
    obtain ⟨rfl, rfl, rfl, HR⟩ := hrel
    go_wp2_with fail
    go_ret
    exact ⟨rfl, by first | exact HR.out | (rw [← hg]; exact HR.out)⟩
theorem Words_nil (w : World) (A2 : Option Addr) (c2 : Nat) (A5 : Option Addr) (c5 : Nat) : Calls Try.prog 66 #[.agg (cellsT (LI []) A2 c2 A5 c5)] w fun e w' => e = .returned (.int .i64 0) ∧ Below w.heap.size w w' :=
  Words_leaf w (LI []) A2 c2 A5 c5 0 rfl (fun W _ => own_plain W (LI []) A2 c2 A5 c5 0 (.inl ⟨rfl, rfl⟩))
theorem Words_int (w : World) (ok : Nat → Prop) (v : Int) (h0 : -9223372036854775808 ≤ v) (h1 : v < 9223372036854775808) (A2 : Option Addr) (c2 : Nat) (A5 : Option Addr) (c5 : Nat) (h : TF w ok (IN v) A2 c2 A5 c5) :
    Calls Try.prog 66 #[.agg (cellsT (IN v) A2 c2 A5 c5)] w fun e w' => e = .returned (.int .i64 (wN v : Nat)) ∧ Below w.heap.size w w' :=
  Words_leaf w (IN v) A2 c2 A5 c5 _ rfl (fun W hb => own_int W ok v h0 h1 A2 c2 A5 c5 (h.below hb))
set_option maxHeartbeats 8000000 in
set_option maxRecDepth 100000 in
theorem Words_list : ∀ (xs : List Int), I64 xs → xs.length ≤ 1000 → ∀ (w : World) (ok : Nat → Prop) (A2 : Option Addr) (c2 : Nat) (A5 : Option Addr) (c5 : Nat), TF w ok (LI xs) A2 c2 A5 c5 →
    Calls Try.prog 66 #[.agg (cellsT (LI xs) A2 c2 A5 c5)] w fun e w' => e = .returned (.int .i64 (wL xs : Nat)) ∧ Below w.heap.size w w'
  | [], _, _, w, ok, A2, c2, A5, c5, h => Words_nil w A2 c2 A5 c5
  | v :: vs, hI, hl, w, ok, A2, c2, A5, c5, h => by
    have hu := Try.underlying43
    obtain ⟨ad, B2, d2, B5, d5, E2, e2, E5, e5, rfl, hk1, hs1, hk2, hs2⟩ := LI_kids h
    have hv := hI v (by simp)
    have HK1 := Aside0.mk (fun (W : World) (hb : Below w.heap.size w W) => Words_int W ok v hv.1 hv.2 B2 d2 B5 d5 (hk1.below hb))
    have HK2 := Aside0.mk (fun (W : World) (hb : Below w.heap.size w W) => Words_list vs (fun x hx => hI x (by simp [hx])) (by simp at hl; omega) W ok E2 e2 E5 e5 (hk2.below hb))
    have HS1 := Aside0.mk hs1
    have HS2 := Aside0.mk hs2
    have hn := wN_le v
    have hw := wL_le vs
    have hl2 : vs.length ≤ 999 := by simp at hl; omega
    have hc5 : 2 ≤ c5 := h.2.2.2
    have hwl : wL (v :: vs) = 2 + wN v + wL vs := rfl
    rw [hwl]
    generalize wL vs = m at hw HK2 ⊢
    generalize wN v = n at hn HK1 ⊢
    obtain ⟨g, hg⟩ : ∃ g, w.heap.size = g := ⟨_, rfl⟩
    have ec : cellsT (LI (v :: vs)) A2 c2 (some ad) c5 = #[.int .i64 4, .bool false, .slice A2 0 c2, .string ⟨#[]⟩, .int .i64 0, .slice (some ad) 2 c5] := rfl
    obtain ⟨W, hW⟩ : ∃ W, w.alloc (.cells #[.int .i64 4, .bool false, .slice A2 0 c2, .string ⟨#[]⟩, .int .i64 0, .slice (some ad) 2 c5] 43) = W := ⟨_, rfl⟩
    have h0 : W.heap[g]? = some (.cells #[.int .i64 4, .bool false, .slice A2 0 c2, .string ⟨#[]⟩, .int .i64 0, .slice (some ad) 2 c5] 43 (0, 0)) := by rw [← hW, ← hg]; exact heap_alloc_new _ _
    have hb : Below w.heap.size w W := by rw [← hW]; exact below_alloc (Below.refl _ _) _
    have HO := Aside0.mk (own_plain W (LI (v :: vs)) A2 c2 (some ad) c5 2 (.inr ⟨rfl, rfl⟩))
    rw [ec] at HO ⊢
    have H0 := Aside0.mk h0
    obtain ⟨b0, b1, b2, b3, b4, b5⟩ := six_cells h0
    have HB := Aside0.mk hb
    have HNM := Aside0.mk (And.intro hn (show m ≤ 5000 by omega))
    clear h0 hb hI hl h hk1 hs1 hk2 hs2 hv ec hwl hn hw hl2
    go_enter Try.func66, Try.ntmps66
    go_wp2_with fail
    refine HO.out.mono ?_
    rintro e w1 ⟨rfl, hb⟩
    have H1 := Aside0.mk ((hb.block _ (blk_lt H0.out)).trans H0.out)
    obtain ⟨q0, q1, q2, q3, q4, q5⟩ := six_cells H1.out
    have HB1 := Aside0.mk (below_step HB.out hb)
    clear hb b0 b1 b2 b3 b4 b5 HO hW
    go_wp2_with fail
    go_loopg [3, 11] 3 (fun q v3 v11 wr => ∃ i : Nat, v11 = .int .i64 i ∧ i ≤ 2 ∧ q = 3 - i ∧ v3 = .int .i64 ((2 + (if 1 ≤ i then n else 0) + (if 2 ≤ i then m else 0) : Nat) : Int) ∧ Aside0 (Below w.heap.size w wr))
    case atStart => exact ⟨0, rfl, by omega, rfl, rfl, by first | exact HB1 | exact ⟨by rw [hg]; exact HB1.out⟩⟩
    case round =>
      obtain ⟨i, rfl, hi, rfl, rfl, HR⟩ := hrel
      by_cases h2 : i < 2
      · have hi2 : i = 0 ∨ i = 1 := by omega
        have hcell : ∃ (p : Addr) (x : TT) (C2 : Option Addr) (f2 : Nat) (C5 : Option Addr) (f5 : Nat) (r : Nat), Six wr p x C2 f2 C5 f5 ∧ p = ad.add (i * 6) ∧ r ≤ 5000 ∧ r = (if i = 0 then n else m) ∧
            (∀ W, Below w.heap.size w W → Calls Try.prog 66 #[.agg (cellsT x C2 f2 C5 f5)] W fun e w' => e = .returned (.int .i64 (r : Nat)) ∧ Below W.heap.size W w') := by
          have hnm := HNM.out
          rcases hi2 with rfl | rfl
          · exact ⟨ad, IN v, B2, d2, B5, d5, n, HS1.out.below HR.out, rfl, by omega, rfl, HK1.out⟩
          · exact ⟨⟨ad.block, ad.off + 6, none⟩, LI vs, E2, e2, E5, e5, m, HS2.out.below HR.out, rfl, by omega, rfl, HK2.out⟩
        obtain ⟨p, x, C2, f2, C5, f5, r, hsix, hp, hrb, hr, hcall⟩ := hcell
        have HCALL := Aside0.mk hcall
        have HRE := Aside0.mk hr
        have HI2 := Aside0.mk hi2
        unfold Six at hsix
        rw [hp] at hsix
        obtain ⟨s0, s1, s2, s3, s4, s5⟩ := hsix
        obtain ⟨t, ht⟩ : ∃ t, 2 + (if 1 ≤ i then n else 0) + (if 2 ≤ i then m else 0) = t := ⟨_, rfl⟩
        have htb : t ≤ 6000 := by have := HNM.out; rw [← ht]; split <;> split <;> omega
        have HTE := Aside0.mk ht
        rw [ht]
        have b1 : (i : Int) < 2 := by omega
        obtain ⟨g5, hg5⟩ : ∃ g5, wr.heap.size = g5 := ⟨_, rfl⟩
        obtain ⟨W5, hW5⟩ : ∃ W5, wr.alloc (.cells #[.int .i64 0, .bool false, .slice none 0 0, .string ⟨#[]⟩, .int .i64 0, .slice none 0 0] 43) = W5 := ⟨_, rfl⟩
        have n5 : W5.heap[g5]? = some (.cells #[.int .i64 0, .bool false, .slice none 0 0, .string ⟨#[]⟩, .int .i64 0, .slice none 0 0] 43 (0, 0)) := by rw [← hW5, ← hg5]; exact heap_alloc_new _ _
        have m5 := six_put (a' := .int .i64 x.f0) (b' := .bool x.f1.f0) (c' := .slice C2 x.f1.f1.length f2) (d' := .string x.f2) (e' := .int .i64 x.f3) (f' := .slice C5 x.f4.length f5) n5
        obtain ⟨p0, p1, p2, p3, p4, p5⟩ := six_cells n5
        obtain ⟨z0, z1, z2, z3, z4, z5⟩ := six_live n5
        obtain ⟨W6, hW6⟩ : ∃ W6, (((((W5.setCell ⟨g5, 0, none⟩ (.int .i64 x.f0)).setCell ⟨g5, 1, none⟩ (.bool x.f1.f0)).setCell ⟨g5, 2, none⟩ (.slice C2 x.f1.f1.length f2)).setCell ⟨g5, 3, none⟩ (.string x.f2)).setCell ⟨g5, 4, none⟩ (.int .i64 x.f3)).setCell ⟨g5, 5, none⟩ (.slice C5 x.f4.length f5) = W6 := ⟨_, rfl⟩
        rw [hW6] at m5
        obtain ⟨r0, r1, r2, r3, r4, r5⟩ := six_cells m5
        have HB6 : Aside0 (Below w.heap.size w W6) := ⟨by
          have hle : wr.heap.size ≤ g5 := by omega
          have hb5 : Below wr.heap.size wr W6 := by rw [← hW6]; exact below_six (by rw [← hW5]; exact below_alloc (Below.refl _ _) _) hle
          exact below_step HR.out hb5⟩
        clear n5 m5 hi2 hcall hr hp ht
        go_wp2_with fail
        refine (HCALL.out W6 HB6.out).mono ?_
        rintro e w7 ⟨rfl, hb⟩
        have HI7 := Aside0.mk (below_step HB6.out hb)
        clear hb p0 p1 p2 p3 p4 p5 z0 z1 z2 z3 z4 z5 r0 r1 r2 r3 r4 r5 s0 s1 s2 s3 s4 s5 hW6 hW5
        go_wp2_with fail
        go_roundg (3 - (i + 1))
        case measure => omega
        case rel =>
          refine ⟨i + 1, by go_num, by omega, rfl, ?_, by first | exact HI7 | exact ⟨by rw [hg]; exact HI7.out⟩⟩
          have h3 := HRE.out
          have h4 := HTE.out
          have h5 : (t : Int) + (r : Int) = ((2 + (if 1 ≤ i + 1 then n else 0) + (if 2 ≤ i + 1 then m else 0) : Nat) : Int) := by
            rcases HI2.out with rfl | rfl
            · simp at h3 h4 ⊢
              subst h3 h4
              omega
            · simp at h3 h4 ⊢
              subst h3 h4
              omega
          exact congrArg (Value.int .i64) h5
      · obtain rfl : i = 2 := by omega
        have b1 : ¬ (2 : Int) < 2 := by omega
        go_wp2_with fail
        go_ret
        exact ⟨by first | rfl | (simp; done) | (congr 1; simp; done), by first | exact HR.out | (rw [← hg]; exact HR.out)⟩
end Go.Proofs.YtlifdpfhepamfaaHw
