/- HeapShares: the walk. -/
import Derived.Test.YtlifdpfhepamfaaRkM
import Derived.Test.YtlifdpfhepamfaaHv
import Derived.Test.YtlifdpfhepamfaaPr
import Derived.Test.YtlifdpfhepamfaaPlace
import Derived.Test.YtlifdpfhepamfaaPHe21
import Derived.Deep.RegionHeld3
namespace Go.Proofs.YtlifdpfhepamfaaHx
open Go.RowKit Go.Maps Go.Proofs.YtlifdpfhepamfaaW.PrintWords Go.Proofs.YtlifdpfhepamfaaW.PrintLast Go.Proofs.YtlifdpfhepamfaaW.PrintMore Go.Proofs.YtlifdpfhepamfaaMem Go.Proofs.YtlifdpfhepamfaaLeaf Go.Proofs.YtlifdpfhepamfaaBits Go.Proofs.Ytlifdpfhepamfaa.PHe Go.Proofs.YtlifdpfhepamfaaRow Go.Proofs.YtlifdpfhepamfaaAr Go.Proofs.YtlifdpfhepamfaaHp Go.Proofs.YtlifdpfhepamfaaHn Go.Proofs.YtlifdpfhepamfaaHo Go.Proofs.YtlifdpfhepamfaaHt Go.Proofs.YtlifdpfhepamfaaHw Go.Proofs.YtlifdpfhepamfaaHu Go.Proofs.YtlifdpfhepamfaaHv Go.Proofs.YtlifdpfhepamfaaPr Go.Proofs.YtlifdpfhepamfaaWd Go.Proofs.YtlifdpfhepamfaaRt Go.Proofs.YtlifdpfhepamfaaNof Go.Proofs.YtlifdpfhepamfaaRe Go.Proofs.YtlifdpfhepamfaaRl Go.Proofs.YtlifdpfhepamfaaRk Go.Proofs.YtlifdpfhepamfaaRu Go.Proofs.YtlifdpfhepamfaaHs Go.Proofs
open Go.Proofs.YtlifdpfhepamfaaRd hiding six_put below_six
open Go.Proofs.YtlifdpfhepamfaaTl (kT six consT consL m_slices)
set_option linter.unusedVariables false
set_option linter.unusedSimpArgs false
theorem sz400 : sizeA 400 = 400 := by kernel_rfl
section
variable {B : Nat} {w : World} {h g gw m : Nat} {v : Value} {l : List Int} {n : Nat} {ns : List ByteArray}
/-- Two words more. -/
theorem halloc2 (H : Hp B w h g gw m v l n ns) (hl : l.length + 2 ≤ n) {k : Int} (hk : k = (l.length : Int)) :
    Calls Try.prog 45 #[.pointer (some ⟨g, 0, none⟩), .int .i64 2] w fun e w' => e = .returned (.tuple #[.int .i64 k, .bool true]) ∧ Hp B w' h g gw m v (l ++ [0, 0]) n ns ∧ Mods (SH h g gw m v) w w' := by
  subst hk
  have hok : okA l n 2 = true := by unfold okA; simp; omega
  refine (alloc_calls w g gw n l 2 H.ar).mono ?_
  rintro e w' ⟨rfl, ha, hm⟩
  have hr : resA l n 2 = l ++ [0, 0] := by unfold resA; rw [hok]; rfl
  have hat : atA l n 2 = l.length := by unfold atA; rw [hok]; rfl
  rw [hr] at ha
  rw [hat, hok]
  exact ⟨rfl, Go.Proofs.YtlifdpfhepamfaaHo.arena H ha (hm.mono (S' := fun i => i = g ∨ i = gw) (fun i hi => .inl hi))⟩
/-- A word is set. -/
theorem hset (H : Hp B w h g gw m v l n ns) {t : Nat} (ht : t < l.length) {x : Int} (x0 : 0 ≤ x) (x1 : x < 18446744073709551616) {k : Int} (hk : k = (t : Int)) :
    Calls Try.prog 46 #[.pointer (some ⟨g, 0, none⟩), .int .i64 k, .int .u64 x] w fun e w' => e = .returned (.tuple #[]) ∧ Hp B w' h g gw m v (l.set t x) n ns ∧ Mods (SH h g gw m v) w w' := by
  subst hk
  refine (set_calls w g gw n l t x H.ar x0 x1).mono ?_
  rintro e w' ⟨rfl, ha, hm⟩
  have hr : setA l (t : Int) x = l.set t x := by unfold setA; rw [if_pos (by omega), Int.toNat_natCast]
  rw [hr] at ha
  exact ⟨rfl, Go.Proofs.YtlifdpfhepamfaaHo.arena H ha (hm.mono (S' := fun i => i = g ∨ i = gw) (fun i hi => .inr hi))⟩
end
/-- Six words behind. -/
theorem set6 (l : List Int) (a b c d e f : Int) : ((((((l ++ [0, 0] ++ [0, 0] ++ [0, 0]).set l.length a).set (l.length + 1) b).set (l.length + 2) c).set (l.length + 3) d).set (l.length + 4) e).set (l.length + 5) f = l ++ [a, b, c, d, e, f] := by
  simp [List.set_append]
theorem tf_of_M {W : World} {base : Nat} {ok : Nat → Prop} {t : Go.Proofs.YtlifdpfhepamfaaTl.TT} {v2 v5 : Value} (h : kT.M W base ok t (six t v2 v5)) : ∃ A2 c2 A5 c5, v2 = .slice A2 t.f1.f1.length c2 ∧ v5 = .slice A5 t.f4.length c5 ∧ TF W ok t A2 c2 A5 c5 := by
  obtain ⟨q2, q5, he, h2, h5⟩ := k43_openM h
  have e2 : v2 = q2 := Option.some.inj (congrArg (fun l : List Value => l[2]?) he)
  have e5 : v5 = q5 := Option.some.inj (congrArg (fun l : List Value => l[5]?) he)
  subst e2 e5
  obtain ⟨A, c, h2', hc, _⟩ := Kd.R_reads h2
  obtain ⟨A', c', h5', hc', _⟩ := Kd.R_reads h5
  subst h2' h5'
  exact ⟨A, c, A', c', rfl, rfl, Kd.R_F h2, hc, Kd.R_F h5, hc'⟩
/-- A term is read now. -/
def TN (W : World) (x : Go.Proofs.YtlifdpfhepamfaaTl.TT) (A2 : Option Addr) (c2 : Nat) (A5 : Option Addr) (c5 : Nat) : Prop :=
  Kd.C (Kd.int .u32) W A2 x.f1.f1.length x.f1.f1 ∧ x.f1.f1.length ≤ c2 ∧ Kd.C kT W A5 x.f4.length x.f4 ∧ x.f4.length ≤ c5
theorem tn_of {W : World} {ok : Nat → Prop} {x : Go.Proofs.YtlifdpfhepamfaaTl.TT} {A2 : Option Addr} {c2 : Nat} {A5 : Option Addr} {c5 : Nat} (h : TF W ok x A2 c2 A5 c5) : TN W x A2 c2 A5 c5 :=
  ⟨h.1 W (fun _ _ _ => rfl), h.2.1, h.2.2.1 W (fun _ _ _ => rfl), h.2.2.2⟩
theorem tn_cons {W : World} {x y : Go.Proofs.YtlifdpfhepamfaaTl.TT} {A2 A5 B2 B5 : Option Addr} {a2 a5 b2 b5 nb : Nat} (hy : TN W y B2 b2 B5 b5) (hx : TN W x A2 a2 A5 a5)
    (hb : W.heap[nb]? = some (.cells (six y (.slice B2 y.f1.f1.length b2) (.slice B5 y.f4.length b5) ++ six x (.slice A2 x.f1.f1.length a2) (.slice A5 x.f4.length a5)).toArray 43 (0, 0))) : TN W (consT y x) none 0 (some ⟨nb, 0, none⟩) 2 := by
  have ky := k43_mk W y hy.2.1 hy.1 hy.2.2.2 hy.2.2.1
  have kx := k43_mk W x hx.2.1 hx.1 hx.2.2.2 hx.2.2.1
  refine ⟨⟨rfl, by show 0 ≤ 9223372036854775807; decide, fun h => absurd h (by show ¬ 0 < 0; decide)⟩, by show 0 ≤ 0; decide, ⟨rfl, by show 2 ≤ 9223372036854775807; decide, fun _ => ⟨_, rfl, fun j p hj => ?_⟩⟩, by show 2 ≤ 2; decide⟩
  have hcell : ∀ i u, (six y (.slice B2 y.f1.f1.length b2) (.slice B5 y.f4.length b5) ++ six x (.slice A2 x.f1.f1.length a2) (.slice A5 x.f4.length a5))[i]? = some u → W.cell? ⟨nb, i, none⟩ = some u := by
    intro i u hu
    simp only [World.cell?, hb]
    simpa using hu
  match j, hj with
  | 0, hj =>
    obtain rfl := Option.some.inj hj
    refine ⟨_, rfl, ky, fun i u hu => ?_⟩
    have := hcell i u (by rw [List.getElem?_append_left (by have := (List.getElem?_eq_some_iff.1 hu).1; exact this)]; exact hu)
    rw [add_plain]
    show W.cell? ⟨nb, 0 * 6 + i, none⟩ = some u
    rw [Nat.zero_mul, Nat.zero_add]
    exact this
  | 1, hj =>
    obtain rfl := Option.some.inj hj
    refine ⟨_, rfl, kx, fun i u hu => ?_⟩
    have := hcell (6 + i) u (by rw [List.getElem?_append_right (by show 6 ≤ 6 + i; omega), show 6 + i - (six y (.slice B2 y.f1.f1.length b2) (.slice B5 y.f4.length b5)).length = i by show 6 + i - 6 = i; omega]; exact hu)
    rw [add_plain]
    exact this
  | j + 2, hj => cases hj
theorem same_tn {W : World} {x y : Go.Proofs.YtlifdpfhepamfaaTl.TT} {A2 A5 B2 B5 : Option Addr} {a2 a5 b2 b5 K : Nat} (hx : TN W x A2 a2 A5 a5) (hy : TN W y B2 b2 B5 b5) (hs : SameF K x y = some true) :
    Calls Try.prog 47 #[.agg (cellsT x A2 a2 A5 a5), .agg (cellsT y B2 b2 B5 b5)] W fun e w' => e = .returned (.bool true) ∧ Below W.heap.size W w' :=
  relictref03_Same.calls K x.f0 x.f1.f0 A2 a2 x.f1.f1 x.f2 x.f3 A5 a5 x.f4 y.f0 y.f1.f0 B2 b2 y.f1.f1 y.f2 y.f3 B5 b5 y.f4 true W hx.1 hx.2.1 hx.2.2.1 hx.2.2.2 hy.1 hy.2.1 hy.2.2.1 hy.2.2.2 hs
theorem i1_any (W : World) (p : Int) (y : Go.Proofs.YtlifdpfhepamfaaTl.TT) (hy : IN p = y) (h0 : 0 ≤ p) (h1 : p < 1000) :
    Calls Try.prog 48 #[.int .i64 p] W fun e w' => ∃ A2 a2 A5 a5, e = .returned (.agg #[.int .i64 y.f0, .bool y.f1.f0, .slice A2 y.f1.f1.length a2, .string y.f2, .int .i64 y.f3, .slice A5 y.f4.length a5]) ∧ TF w' (fun _ => True) y A2 a2 A5 a5 ∧ Below W.heap.size W w' := by
  subst hy
  have hf : relictlaw00_I1.f 10 p = some (six_ (IN p)) := by
    unfold relictlaw00_I1.f
    rw [int_f 10 p (by omega)]
    rfl
  refine (relictlaw00_I1.calls 10 p _ _ _ _ _ _ W hf).mono ?_
  rintro e w' ⟨v2, v5, rfl, h2, h5, hb⟩
  obtain ⟨A, c, h2', hc, _⟩ := Kd.R_reads h2
  obtain ⟨A', c', h5', hc', _⟩ := Kd.R_reads h5
  subst h2' h5'
  exact ⟨A, c, A', c', rfl, ⟨Kd.R_F h2, hc, Kd.R_F (Kd.R_mono h5 (fun _ _ => trivial)), hc'⟩, hb⟩
/-- The law's words, and what they are. -/
theorem words_of {ks l4 L : List Int} {x4 : Int} {n4 : Nat} {B h g gw m : Nat} {u : Value} {n : Nat} {ns : List ByteArray} (hI : I64 ks) (h4 : putLw ks [] = l4) (hx : putWw ks [] = x4) (hn : l4.length = n4) (hn3 : n4 ≤ 300) (p q : Int)
    (hL : l4 ++ [16 * p + 3, x4, 16 * q + 3, x4, 11, 4 * (n4 : Int) + 17] = L) (hk : ks.length ≤ 60) (hp : 0 ≤ p ∧ p < 1000) (hq : 0 ≤ q ∧ q < 1000) :
    Rds B h g gw m u L n ns (4 * (n4 : Int) + 1) (LI (p :: ks)) (1 + 2 * (ks.length + 1)) ∧ Rds B h g gw m u L n ns (4 * (n4 : Int) + 9) (LI (q :: ks)) (1 + 2 * (ks.length + 1)) ∧ EndR B h g gw m u n ns L (fun x => x = 4 * (n4 : Int) + 17) := by
  have hlen : L.length = n4 + 6 := by rw [← hL, List.length_append, hn]; rfl
  have hpre : putLw ks [] <+: L := by rw [h4, ← hL]; exact List.prefix_append _ _
  have hg : ∀ i, i < 6 → L.getD (n4 + i) 0 = [16 * p + 3, x4, 16 * q + 3, x4, 11, 4 * (n4 : Int) + 17].getD i 0 := by
    intro i hi
    rw [← hL, List.getD_eq_getElem?_getD, List.getElem?_append_right (by omega), hn, Nat.add_sub_cancel_left, List.getD_eq_getElem?_getD]
  have T := tl_put (B := B) (h := h) (g := g) (gw := gw) (m := m) (u := u) (n := n) (ns := ns) (L := L) ks [] hI hpre (by omega)
  rw [hx] at T
  have g0 := hg 0 (by omega)
  have g1 := hg 1 (by omega)
  have g2 := hg 2 (by omega)
  have g3 := hg 3 (by omega)
  have g4 := hg 4 (by omega)
  have g5 := hg 5 (by omega)
  have sp : smallW p = 16 * p + 3 := by unfold smallW; omega
  have sq : smallW q = 16 * q + 3 := by unfold smallW; omega
  refine ⟨?_, ?_, ?_⟩
  · have hc := cell_mk (L := L) (a := n4) (by omega) (by omega) g0 g1
    have := rds_tl (tl_cons hc (by show Rds B h g gw m u L n ns (16 * p + 3) _ _; rw [← sp]; exact rds_small B h g gw m u L n ns p (by omega) (by omega)) T (by unfold ptrW; omega) (good_mk (by omega) (by omega) (by rw [show L.getD n4 0 = 16 * p + 3 from g0]; omega)))
    rw [show ptrW 1 n4 = 4 * (n4 : Int) + 1 by unfold ptrW; omega] at this
    exact this
  · have hc := cell_mk (L := L) (a := n4 + 2) (by omega) (by omega) g2 g3
    have := rds_tl (tl_cons hc (by show Rds B h g gw m u L n ns (16 * q + 3) _ _; rw [← sq]; exact rds_small B h g gw m u L n ns q (by omega) (by omega)) T (by unfold ptrW; omega) (good_mk (by omega) (by omega) (by rw [show L.getD (n4 + 2) 0 = 16 * q + 3 from g2]; omega)))
    rw [show ptrW 1 (n4 + 2) = 4 * (n4 : Int) + 9 by unfold ptrW; omega] at this
    exact this
  · rintro x rfl
    have hc := cell_mk (L := L) (a := n4 + 4) (by omega) (by omega) g4 g5
    have hgd := good_mk (L := L) (a := n4 + 4) (by omega) (by omega) (by rw [show L.getD (n4 + 4) 0 = 11 from g4]; omega)
    rw [show ptrW 1 (n4 + 4) = 4 * (n4 : Int) + 17 by unfold ptrW; omega] at hc hgd
    obtain ⟨a0, a1, a2, a3, a4, a5, a6⟩ := hc
    rw [a2]
    refine ⟨a0, a1, by omega, hgd, a3, a4, ⟨LI [], ?_⟩, ?_⟩
    · rw [a5]; exact rds_nil B h g gw m u L n ns
    · rw [a6]; rfl
-- tables
def T23 : Bool × List (List Nat × List Nat) := (true, [([], []), ([0], [0]), ([1], [1]), ([1, 2], [1, 2]), ([3, 1], [3]), ([4], [4]), ([5, 4], [4, 5]), ([4, 6], [4, 6]), ([7, 4], [7]), ([8], [8]), ([8], [8]), ([10, 8, 8], [8, 10]), ([8], [8]), ([11, 12, 8], [8, 11, 12]), ([13, 8], [8, 13]), ([9, 14, 11, 8], [8, 9, 14]), ([8, 15], [8, 15]), ([16, 15], [16]), ([17], [17]), ([17], [17]), ([19, 17, 17], [17, 19]), ([17], [17]), ([20, 21, 17], [17, 20, 21]), ([22, 17], [17, 22]), ([18, 23, 20, 17], [17, 18, 23]), ([17, 24], [17, 24]), ([25, 24], [25]), ([26, 26], [26]), ([26, 27], [26, 27]), ([28, 27, 0, 1, 2, 3, 4, 5, 6, 7, 8, 9, 10, 11, 12, 13, 14, 15, 16, 17, 18, 19, 20, 21, 22, 23, 24, 25, 26, 27, 28], [28])])
def B23 : List Nat := [0, 1, 3, 7, 15, 31, 63, 127, 255, 511, 511, 1535, 511, 7679, 15871, 32767, 65535, 131071, 262143, 262143, 786431, 262143, 3932159, 8126463, 16777215, 33554431, 67108863, 134217727, 268435455, 536870911]
theorem tab23 : rtab .any (opsOf Try.f8 23) = T23 := by kernel_rfl
theorem bits23 : waitsOk T23.2 B23 = true := by kernel_rfl
-- tables done
set_option maxHeartbeats 16000000 in
set_option maxRecDepth 100000 in
theorem law_calls (A' : Option Addr) (len' c' : Nat) (ks : List Int) (a b : Int) (w : World) (hk : ReadsInt w .i64 A' len' ks) (hc' : len' ≤ c') (hI : I64 ks) :
    Calls Try.prog 8 #[.slice A' len' c', .int .i64 a, .int .i64 b] w fun e w' => e = .returned (.bool true) ∧ Below w.heap.size w w' := by
  by_cases hbig : 60 < len'
  · have b2 : ((60 : Int) < (len' : Int)) := by omega
    have b1 : decide ((60 : Int) < (len' : Int)) = true := by simp; omega
    clear hk hc' hI hbig
    go_enter Try.func8, Try.ntmps8
    go_wp2_with fail
    refine (Go.Proofs.YtlifdpfhepamfaaHv.awake_calls _).mono ?_
    rintro e w1 ⟨rfl, hb⟩
    have HB := Aside0.mk hb
    clear hb
    go_wp2_with fail
    go_ret
    exact ⟨rfl, HB.out⟩
  · have b2 : ¬ ((60 : Int) < (len' : Int)) := by omega
    have hlk : len' ≤ 60 := by omega
    have hu := Try.underlying43
    have HK := Aside0.mk hk
    have HI := Aside0.mk hI
    have HKL := Aside0.mk hk.1
    have HNEW := Aside0.mk (new_calls 400 w w.heap.size (Nat.le_refl _))
    rw [sz400] at HNEW
    have hp1 := proper_f ks hI (by have := hk.1; omega)
    obtain ⟨x, hxx⟩ : ∃ x, LI ks = x := ⟨_, rfl⟩
    rw [hxx] at hp1
    have HP1 := Aside0.mk hp1
    have HXX := Aside0.mk hxx
    have r0 := Int.emod_nonneg a (show (1000 : Int) ≠ 0 by omega)
    have r1 := Int.emod_lt_of_pos a (show (0 : Int) < 1000 by omega)
    have q0 := Int.emod_nonneg b (show (1000 : Int) ≠ 0 by omega)
    have q1 := Int.emod_lt_of_pos b (show (0 : Int) < 1000 by omega)
    have HPA := Aside0.mk (fun W => Go.Proofs.YtlifdpfhepamfaaPl.place_calls a 1000 W (by omega) (by omega))
    have HPB := Aside0.mk (fun W => Go.Proofs.YtlifdpfhepamfaaPl.place_calls b 1000 W (by omega) (by omega))
    obtain ⟨p, hp⟩ : ∃ p, a % 1000 = p := ⟨_, rfl⟩
    obtain ⟨q, hq⟩ : ∃ q, b % 1000 = q := ⟨_, rfl⟩
    rw [hp] at r0 r1 HPA
    rw [hq] at q0 q1 HPB
    clear hp1 hxx hk hI hbig hp hq
    go_enter Try.func8, Try.ntmps8
    go_wp2_with fail
    refine HNEW.out.mono ?_
    rintro e w1 ⟨h, g, gw, m, rfl, hh, hb, hlo⟩
    have HH := Aside0.mk hh
    have HB := Aside0.mk hb
    have HLO := Aside0.mk hlo
    obtain ⟨c0, c1, c2, f1⟩ := hh.cells
    have HPR := Aside0.mk (fun W (hW : Below w1.heap.size w1 W) => relictlaw00_Proper.calls 200 A' c' ks x.f0 x.f1.f0 x.f1.f1 x.f2 x.f3 x.f4 W (Kd.C_of_reads (enc := Value.int .i64) (d := (0 : Int)) (h1 := fun _ => rfl) (by rw [HKL.out]; exact reads_mods HK.out (Mods.of_below (fun _ => False) (below_step HB.out hW)) (fun _ _ => id))) (by rw [HKL.out]; exact hc') HP1.out)
    rw [HKL.out] at HPR
    clear hh hb hlo HNEW
    go_wp2_with fail
    refine (HPR.out _ (Below.refl _ _)).mono ?_
    rintro e w3 ⟨v2, v5, rfl, t2, t5, hb⟩
    obtain ⟨A2, a2, rfl⟩ := Kd.V_slice t2
    obtain ⟨A5, a5, rfl⟩ := Kd.V_slice t5
    have hT : TF w3 (fun k => w1.heap.size ≤ k) x A2 a2 A5 a5 := ⟨Kd.V_F t2, (Kd.V_at t2).2.1, Kd.V_F t5, (Kd.V_at t5).2.1⟩
    obtain ⟨gb, hgb⟩ : ∃ gb, w3.heap.size = gb := ⟨_, rfl⟩
    obtain ⟨Wb, hWb⟩ : ∃ Wb, w3.alloc (.cells #[.int .i64 0, .bool false, .slice none 0 0, .string ⟨#[]⟩, .int .i64 0, .slice none 0 0] 43) = Wb := ⟨_, rfl⟩
    have hnb : Wb.heap[gb]? = some (.cells #[.int .i64 0, .bool false, .slice none 0 0, .string ⟨#[]⟩, .int .i64 0, .slice none 0 0] 43 (0, 0)) := by rw [← hWb, ← hgb]; exact heap_alloc_new _ _
    have hbb : Below w3.heap.size w3 Wb := by rw [← hWb]; exact below_alloc (Below.refl _ _) _
    have mb := six_put (a' := .int .i64 x.f0) (b' := .bool x.f1.f0) (c' := .slice A2 x.f1.f1.length a2) (d' := .string x.f2) (e' := .int .i64 x.f3) (f' := .slice A5 x.f4.length a5) hnb
    obtain ⟨p0, p1, p2, p3, p4, p5⟩ := six_cells hnb
    obtain ⟨z0, z1, z2, z3, z4, z5⟩ := six_live hnb
    obtain ⟨Vb, hVb⟩ : ∃ Vb, (((((Wb.setCell ⟨gb, 0, none⟩ (.int .i64 x.f0)).setCell ⟨gb, 1, none⟩ (.bool x.f1.f0)).setCell ⟨gb, 2, none⟩ (.slice A2 x.f1.f1.length a2)).setCell ⟨gb, 3, none⟩ (.string x.f2)).setCell ⟨gb, 4, none⟩ (.int .i64 x.f3)).setCell ⟨gb, 5, none⟩ (.slice A5 x.f4.length a5) = Vb := ⟨_, rfl⟩
    rw [hVb] at mb
    have hcb : Below w3.heap.size w3 Vb := by rw [← hVb]; exact below_six hbb (by rw [hgb]; exact Nat.le_refl _)
    obtain ⟨s0, s1, s2, s3, s4, s5⟩ := six_cells mb
    have hTV := hT.below hcb
    rw [← HXX.out] at hTV
    have hput := put_calls Vb w.heap.size h g gw m (.slice none 0 0) [] 400 [] (fun k => w1.heap.size ≤ k) ks HI.out (by rw [HKL.out]; omega) A2 a2 A5 a5 ((HH.out.below hb).below hcb) hTV
      (fun k hk hs => by have h1 := (HH.out.foot k hs).2; omega) (by have := wL_le ks; have := HKL.out; simp; omega)
    rw [HXX.out] at hput hTV
    have HL4 := Aside0.mk (And.intro (putLw_len ks []) (putWw_bd ks [] (by rw [putLw_len]; have := wL_le ks; have := HKL.out; simp; omega)))
    have HLE := Aside0.mk (wL_le ks)
    obtain ⟨l4, hl4⟩ : ∃ l4, putLw ks [] = l4 := ⟨_, rfl⟩
    obtain ⟨x4, hx4⟩ : ∃ x4, putWw ks [] = x4 := ⟨_, rfl⟩
    have HPF := Aside0.mk (And.intro hl4 hx4)
    rw [hl4, hx4] at hput HL4
    unfold cellsT at hput
    have HPUT := Aside0.mk hput
    have HTV := Aside0.mk hTV
    have HMB := Aside0.mk mb
    have HBV := Aside0.mk (below_step (below_step HB.out hb) hcb)
    have HSG : Aside0 (w1.heap.size ≤ gb) := ⟨by rw [← hgb]; exact hb.size⟩
    clear t2 t5 hb hT hput HPR hnb hbb mb hcb hTV hl4 hx4
    go_wp2_with fail
    refine HPUT.out.mono ?_
    rintro e w4 ⟨rfl, hh, hm⟩
    have HS : Aside0 (∀ k, SH h g gw m (.slice none 0 0) k → w.heap.size ≤ k ∧ k < w1.heap.size) := ⟨fun k hk => ⟨HLO.out k hk, (HH.out.foot k hk).2⟩⟩
    have HH4 := Aside0.mk hh
    have HM4 := Aside0.mk (hm.mono (S' := fun k => w.heap.size ≤ k ∧ k < w1.heap.size) HS.out)
    clear hh hm HPUT s0 s1 s2 s3 s4 s5 c0 c1 c2 f1
    obtain ⟨c0, c1, c2, f1⟩ := HH4.out.cells
    have hn4 : l4.length ≤ 300 := by have h1 := HL4.out.1; have h2 := HLE.out; have h3 := HKL.out; simp at h1; omega
    obtain ⟨n4, hn⟩ : ∃ n4, l4.length = n4 := ⟨_, rfl⟩
    rw [hn] at hn4
    have HN := Aside0.mk hn
    have HA := Aside0.mk (halloc2 HH4.out (k := (n4 : Int)) (by omega) (by omega))
    clear hn
    go_wp2_with fail
    refine HA.out.mono ?_
    rintro e w5 ⟨rfl, hh, hm⟩
    have HH5 := Aside0.mk hh
    have HM5 := Aside0.mk (HM4.out.trans (hm.mono (S' := fun k => w.heap.size ≤ k ∧ k < w1.heap.size) HS.out))
    clear hh hm HA HH4 HM4 c0 c1 c2 f1
    obtain ⟨c0, c1, c2, f1⟩ := HH5.out.cells
    have HA := Aside0.mk (halloc2 HH5.out (k := (n4 : Int) + 2) (by simp; have := HN.out; omega) (by simp; have := HN.out; omega))
    go_wp2_with fail
    refine HA.out.mono ?_
    rintro e w6 ⟨rfl, hh, hm⟩
    have HH6 := Aside0.mk hh
    have HM6 := Aside0.mk (HM5.out.trans (hm.mono (S' := fun k => w.heap.size ≤ k ∧ k < w1.heap.size) HS.out))
    clear hh hm HA HH5 HM5 c0 c1 c2 f1
    obtain ⟨c0, c1, c2, f1⟩ := HH6.out.cells
    have HA := Aside0.mk (halloc2 HH6.out (k := (n4 : Int) + 4) (by simp; have := HN.out; omega) (by simp; have := HN.out; omega))
    go_wp2_with fail
    refine HA.out.mono ?_
    rintro e w7 ⟨rfl, hh, hm⟩
    have HH7 := Aside0.mk hh
    have HM7 := Aside0.mk (HM6.out.trans (hm.mono (S' := fun k => w.heap.size ≤ k ∧ k < w1.heap.size) HS.out))
    clear hh hm HA HH6 HM6 c0 c1 c2 f1
    obtain ⟨c0, c1, c2, f1⟩ := HH7.out.cells
    have HXB := Aside0.mk HL4.out.2
    go_wp2_with fail
    refine (HPA.out _).mono ?_
    rintro e w8 ⟨rfl, nd8, rfl⟩
    go_wp2_with fail
    refine (HPB.out _).mono ?_
    rintro e w9 ⟨rfl, nd9, rfl⟩
    obtain ⟨w9, hw9⟩ : ∃ w9, w7.drewN (nd8 + nd9) = w9 := ⟨_, rfl⟩
    have HH9 : Aside0 (Hp w.heap.size w9 h g gw m (.slice none 0 0) (l4 ++ [0, 0] ++ [0, 0] ++ [0, 0]) 400 []) := ⟨by rw [← hw9]; exact HH7.out.below (pw_below_drewN (Below.refl _ w7) (nd8 + nd9))⟩
    have HM9 : Aside0 (Mods (fun k => w.heap.size ≤ k ∧ k < w1.heap.size) Vb w9) := ⟨by rw [← hw9]; exact HM7.out.drewN _⟩
    clear HH7 HM7 HPA HPB c0 c1 c2 f1
    have orA : bits .or .u64 (p * 16) 3 = 16 * p + 3 := by rw [or_join 4 (p * 16) 3 (by omega) (by omega) (by omega) (by omega) (by omega) (by omega)]; omega
    have orB : bits .or .u64 (q * 16) 3 = 16 * q + 3 := by rw [or_join 4 (q * 16) 3 (by omega) (by omega) (by omega) (by omega) (by omega) (by omega)]; omega
    have orX : bits .or .u64 ((n4 : Int) * 4) 1 = 4 * (n4 : Int) + 1 := by rw [or_join 2 ((n4 : Int) * 4) 1 (by omega) (by omega) (by omega) (by omega) (by omega) (by omega)]; omega
    have orY : bits .or .u64 (((n4 : Int) + 2) * 4) 1 = 4 * (n4 : Int) + 9 := by rw [or_join 2 (((n4 : Int) + 2) * 4) 1 (by omega) (by omega) (by omega) (by omega) (by omega) (by omega)]; omega
    have orZ : bits .or .u64 (((n4 : Int) + 4) * 4) 1 = 4 * (n4 : Int) + 17 := by rw [or_join 2 (((n4 : Int) + 4) * 4) 1 (by omega) (by omega) (by omega) (by omega) (by omega) (by omega)]; omega
    obtain ⟨c0, c1, c2, f1⟩ := HH9.out.cells
    have HA := Aside0.mk (hset HH9.out (t := n4) (x := 16 * p + 3) (k := (n4 : Int)) (by simp; have := HN.out; omega) (by have := HXB.out; omega) (by have := HXB.out; omega) (by omega))
    go_wp2_with fail
    refine HA.out.mono ?_
    rintro e w10 ⟨rfl, hh, hm⟩
    have HH10 := Aside0.mk hh
    have HM10 := Aside0.mk (HM9.out.trans (hm.mono (S' := fun k => w.heap.size ≤ k ∧ k < w1.heap.size) HS.out))
    clear hh hm HA HH9 HM9 c0 c1 c2 f1
    obtain ⟨c0, c1, c2, f1⟩ := HH10.out.cells
    have HA := Aside0.mk (hset HH10.out (t := n4 + 1) (x := x4) (k := (n4 : Int) + 1) (by simp; have := HN.out; omega) (by have := HXB.out; omega) (by have := HXB.out; omega) (by omega))
    go_wp2_with fail
    refine HA.out.mono ?_
    rintro e w11 ⟨rfl, hh, hm⟩
    have HH11 := Aside0.mk hh
    have HM11 := Aside0.mk (HM10.out.trans (hm.mono (S' := fun k => w.heap.size ≤ k ∧ k < w1.heap.size) HS.out))
    clear hh hm HA HH10 HM10 c0 c1 c2 f1
    obtain ⟨c0, c1, c2, f1⟩ := HH11.out.cells
    have HA := Aside0.mk (hset HH11.out (t := n4 + 2) (x := 16 * q + 3) (k := (n4 : Int) + 2) (by simp; have := HN.out; omega) (by have := HXB.out; omega) (by have := HXB.out; omega) (by omega))
    go_wp2_with fail
    refine HA.out.mono ?_
    rintro e w12 ⟨rfl, hh, hm⟩
    have HH12 := Aside0.mk hh
    have HM12 := Aside0.mk (HM11.out.trans (hm.mono (S' := fun k => w.heap.size ≤ k ∧ k < w1.heap.size) HS.out))
    clear hh hm HA HH11 HM11 c0 c1 c2 f1
    obtain ⟨c0, c1, c2, f1⟩ := HH12.out.cells
    have HA := Aside0.mk (hset HH12.out (t := n4 + 3) (x := x4) (k := (n4 : Int) + 3) (by simp; have := HN.out; omega) (by have := HXB.out; omega) (by have := HXB.out; omega) (by omega))
    go_wp2_with fail
    refine HA.out.mono ?_
    rintro e w13 ⟨rfl, hh, hm⟩
    have HH13 := Aside0.mk hh
    have HM13 := Aside0.mk (HM12.out.trans (hm.mono (S' := fun k => w.heap.size ≤ k ∧ k < w1.heap.size) HS.out))
    clear hh hm HA HH12 HM12 c0 c1 c2 f1
    obtain ⟨c0, c1, c2, f1⟩ := HH13.out.cells
    have HA := Aside0.mk (hset HH13.out (t := n4 + 4) (x := 11) (k := (n4 : Int) + 4) (by simp; have := HN.out; omega) (by have := HXB.out; omega) (by have := HXB.out; omega) (by omega))
    go_wp2_with fail
    refine HA.out.mono ?_
    rintro e w14 ⟨rfl, hh, hm⟩
    have HH14 := Aside0.mk hh
    have HM14 := Aside0.mk (HM13.out.trans (hm.mono (S' := fun k => w.heap.size ≤ k ∧ k < w1.heap.size) HS.out))
    clear hh hm HA HH13 HM13 c0 c1 c2 f1
    obtain ⟨c0, c1, c2, f1⟩ := HH14.out.cells
    have HA := Aside0.mk (hset HH14.out (t := n4 + 5) (x := 4 * (n4 : Int) + 17) (k := (n4 : Int) + 5) (by simp; have := HN.out; omega) (by have := HXB.out; omega) (by have := HXB.out; omega) (by omega))
    go_wp2_with fail
    refine HA.out.mono ?_
    rintro e w15 ⟨rfl, hh, hm⟩
    have HH15 := Aside0.mk hh
    have HM15 := Aside0.mk (HM14.out.trans (hm.mono (S' := fun k => w.heap.size ≤ k ∧ k < w1.heap.size) HS.out))
    clear hh hm HA HH14 HM14 c0 c1 c2 f1
    -- behind the words
    have hfin := HH15.out
    rw [← HN.out, set6, HN.out] at hfin
    obtain ⟨L, hL⟩ : ∃ L, l4 ++ [16 * p + 3, x4, 16 * q + 3, x4, 11, 4 * (n4 : Int) + 17] = L := ⟨_, rfl⟩
    rw [hL] at hfin
    have HHF := Aside0.mk hfin
    have HBF : Aside0 (Below w.heap.size w w15) := ⟨HBV.out.trans (HM15.out.below HBV.out.size (fun k hk => hk.1))⟩
    have FX := words_of HI.out HPF.out.1 HPF.out.2 HN.out hn4 p q hL (by have := HKL.out; omega) ⟨r0, r1⟩ ⟨q0, q1⟩ (B := w.heap.size) (h := h) (g := g) (gw := gw) (m := m) (u := .slice none 0 0) (n := 400) (ns := [])
    obtain ⟨RX, RY, EZ⟩ := FX
    have HGX := Aside0.mk (get_rds w15 w.heap.size h g gw m (.slice none 0 0) L 400 [] (4 * (n4 : Int) + 1) _ _ HHF.out RX (by have := HKL.out; omega))
    have HRY := Aside0.mk RY
    have HEZ := Aside0.mk EZ
    obtain ⟨y1, hy1⟩ : ∃ y1, LI (p :: ks) = y1 := ⟨_, rfl⟩
    obtain ⟨y2, hy2⟩ : ∃ y2, LI (q :: ks) = y2 := ⟨_, rfl⟩
    have HY1 : Aside0 (y1 = consT (IN p) x) := ⟨by rw [← hy1, ← HXX.out]; rfl⟩
    have HY2 : Aside0 (y2 = consT (IN q) x) := ⟨by rw [← hy2, ← HXX.out]; rfl⟩
    rw [hy1] at HGX
    rw [hy2] at HRY
    have HGB : Aside0 (w15.heap[gb]? = some (.cells #[.int .i64 x.f0, .bool x.f1.f0, .slice A2 x.f1.f1.length a2, .string x.f2, .int .i64 x.f3, .slice A5 x.f4.length a5] 43 (0, 0))) := ⟨HM15.out.blk HMB.out (fun e => by have := HSG.out; omega)⟩
    have HTX : Aside0 (TF w15 (fun k => w1.heap.size ≤ k) x A2 a2 A5 a5) := ⟨HTV.out.step (fun k hk hlt => HM15.out.block k hlt (fun e => by omega))⟩
    have HSM := Aside0.mk (fun v => (same_cons (IN v) x 500 (by omega) (same_IN v _ (by omega)) (by rw [← HXX.out]; exact same_LI ks _ (by have := HKL.out; omega)) : SameF 507 (consT (IN v) x) (consT (IN v) x) = some true))
    have HPB := Aside0.mk (And.intro r0 (And.intro r1 (And.intro q0 q1)))
    clear hfin RX RY EZ hL hy1 hy2 HH15 HM15 HPF orA orB HMB HTV HXB
    go_wp2_with fail
    refine HGX.out.mono ?_
    rintro e w16 ⟨v2, v5, rfl, hM, hb⟩
    obtain ⟨B2, b2_, B5, b5_, rfl, rfl, hT⟩ := tf_of_M hM
    obtain ⟨gt, hgt⟩ : ∃ gt, w16.heap.size = gt := ⟨_, rfl⟩
    obtain ⟨Wgt, hWgt⟩ : ∃ Wgt, w16.alloc (.cells #[.int .i64 0, .bool false, .slice none 0 0, .string ⟨#[]⟩, .int .i64 0, .slice none 0 0] 43) = Wgt := ⟨_, rfl⟩
    have hngt : Wgt.heap[gt]? = some (.cells #[.int .i64 0, .bool false, .slice none 0 0, .string ⟨#[]⟩, .int .i64 0, .slice none 0 0] 43 (0, 0)) := by rw [← hWgt, ← hgt]; exact heap_alloc_new _ _
    have hbgt : Below w16.heap.size w16 Wgt := by rw [← hWgt]; exact below_alloc (Below.refl _ _) _
    have mgt := Go.Proofs.YtlifdpfhepamfaaRd.six_put (a' := .int .i64 y1.f0) (b' := .bool y1.f1.f0) (c' := .slice B2 y1.f1.f1.length b2_) (d' := .string y1.f2) (e' := .int .i64 y1.f3) (f' := .slice B5 y1.f4.length b5_) hngt
    obtain ⟨tp0, tp1, tp2, tp3, tp4, tp5⟩ := six_cells hngt
    obtain ⟨tz0, tz1, tz2, tz3, tz4, tz5⟩ := six_live hngt
    obtain ⟨Vgt, hVgt⟩ : ∃ Vgt, (((((Wgt.setCell ⟨gt, 0, none⟩ (.int .i64 y1.f0)).setCell ⟨gt, 1, none⟩ (.bool y1.f1.f0)).setCell ⟨gt, 2, none⟩ (.slice B2 y1.f1.f1.length b2_)).setCell ⟨gt, 3, none⟩ (.string y1.f2)).setCell ⟨gt, 4, none⟩ (.int .i64 y1.f3)).setCell ⟨gt, 5, none⟩ (.slice B5 y1.f4.length b5_) = Vgt := ⟨_, rfl⟩
    rw [hVgt] at mgt
    have hcgt : Below w16.heap.size w16 Vgt := by rw [← hVgt]; exact Go.Proofs.YtlifdpfhepamfaaRd.below_six hbgt (by rw [hgt]; exact Nat.le_refl _)
    have HH16 := Aside0.mk ((HHF.out.below hb).below hcgt)
    have HB16 := Aside0.mk (below_step (below_step HBF.out hb) hcgt)
    have HGB16 := Aside0.mk (((hb.trans (hcgt.mono hb.size)).block _ (blk_lt HGB.out)).trans HGB.out)
    have HTX16 := Aside0.mk ((HTX.out.below hb).below hcgt)
    have HT16 := Aside0.mk (hT.below hcgt)
    have HGT16 := Aside0.mk mgt
    have HGY := Aside0.mk (get_rds Vgt w.heap.size h g gw m (.slice none 0 0) L 400 [] (4 * (n4 : Int) + 9) _ _ HH16.out HRY.out (by have := HKL.out; omega))
    clear hb hM hT HGX hngt hbgt hcgt mgt HRY HGB HTX HBF
    unfold six
    go_wp2_with fail
    refine HGY.out.mono ?_
    rintro e w17 ⟨v2, v5, rfl, hM, hb⟩
    obtain ⟨C2, c2_, C5, c5_, rfl, rfl, hT⟩ := tf_of_M hM
    obtain ⟨gu, hgu⟩ : ∃ gu, w17.heap.size = gu := ⟨_, rfl⟩
    obtain ⟨Wgu, hWgu⟩ : ∃ Wgu, w17.alloc (.cells #[.int .i64 0, .bool false, .slice none 0 0, .string ⟨#[]⟩, .int .i64 0, .slice none 0 0] 43) = Wgu := ⟨_, rfl⟩
    have hngu : Wgu.heap[gu]? = some (.cells #[.int .i64 0, .bool false, .slice none 0 0, .string ⟨#[]⟩, .int .i64 0, .slice none 0 0] 43 (0, 0)) := by rw [← hWgu, ← hgu]; exact heap_alloc_new _ _
    have hbgu : Below w17.heap.size w17 Wgu := by rw [← hWgu]; exact below_alloc (Below.refl _ _) _
    have mgu := Go.Proofs.YtlifdpfhepamfaaRd.six_put (a' := .int .i64 y2.f0) (b' := .bool y2.f1.f0) (c' := .slice C2 y2.f1.f1.length c2_) (d' := .string y2.f2) (e' := .int .i64 y2.f3) (f' := .slice C5 y2.f4.length c5_) hngu
    obtain ⟨up0, up1, up2, up3, up4, up5⟩ := six_cells hngu
    obtain ⟨uz0, uz1, uz2, uz3, uz4, uz5⟩ := six_live hngu
    obtain ⟨Vgu, hVgu⟩ : ∃ Vgu, (((((Wgu.setCell ⟨gu, 0, none⟩ (.int .i64 y2.f0)).setCell ⟨gu, 1, none⟩ (.bool y2.f1.f0)).setCell ⟨gu, 2, none⟩ (.slice C2 y2.f1.f1.length c2_)).setCell ⟨gu, 3, none⟩ (.string y2.f2)).setCell ⟨gu, 4, none⟩ (.int .i64 y2.f3)).setCell ⟨gu, 5, none⟩ (.slice C5 y2.f4.length c5_) = Vgu := ⟨_, rfl⟩
    rw [hVgu] at mgu
    have hcgu : Below w17.heap.size w17 Vgu := by rw [← hVgu]; exact Go.Proofs.YtlifdpfhepamfaaRd.below_six hbgu (by rw [hgu]; exact Nat.le_refl _)
    have HH17 := Aside0.mk ((HH16.out.below hb).below hcgu)
    have HB17 := Aside0.mk (below_step (below_step HB16.out hb) hcgu)
    have HGB17 := Aside0.mk (((hb.trans (hcgu.mono hb.size)).block _ (blk_lt HGB16.out)).trans HGB16.out)
    have HTX17 := Aside0.mk ((HTX16.out.below hb).below hcgu)
    have HT17 := Aside0.mk ((HT16.out.below hb).below hcgu)
    have HU17 := Aside0.mk (hT.below hcgu)
    have HGT17 := Aside0.mk (((hb.trans (hcgu.mono hb.size)).block _ (blk_lt HGT16.out)).trans HGT16.out)
    have HGU17 := Aside0.mk mgu
    have HGZ := Aside0.mk (Go.Proofs.YtlifdpfhepamfaaRu.get_no Vgu w.heap.size h g gw m (.slice none 0 0) L 400 [] (4 * (n4 : Int) + 17) _ HH17.out HEZ.out rfl)
    clear hb hM hT HGY hngu hbgu hcgu mgu HEZ HH16 HB16 HGB16 HTX16 HT16 HGT16
    unfold six
    go_wp2_with fail
    refine HGZ.out.mono ?_
    rintro e w18 ⟨rfl, hb⟩
    obtain ⟨gz, hgz⟩ : ∃ gz, w18.heap.size = gz := ⟨_, rfl⟩
    obtain ⟨Wgz, hWgz⟩ : ∃ Wgz, w18.alloc (.cells #[.int .i64 0, .bool false, .slice none 0 0, .string ⟨#[]⟩, .int .i64 0, .slice none 0 0] 43) = Wgz := ⟨_, rfl⟩
    have hngz : Wgz.heap[gz]? = some (.cells #[.int .i64 0, .bool false, .slice none 0 0, .string ⟨#[]⟩, .int .i64 0, .slice none 0 0] 43 (0, 0)) := by rw [← hWgz, ← hgz]; exact heap_alloc_new _ _
    have hbgz : Below w18.heap.size w18 Wgz := by rw [← hWgz]; exact below_alloc (Below.refl _ _) _
    have mgz := Go.Proofs.YtlifdpfhepamfaaRd.six_put (a' := .int .i64 0) (b' := .bool false) (c' := .slice none 0 0) (d' := .string ⟨#[]⟩) (e' := .int .i64 0) (f' := .slice none 0 0) hngz
    obtain ⟨zp0, zp1, zp2, zp3, zp4, zp5⟩ := six_cells hngz
    obtain ⟨zz0, zz1, zz2, zz3, zz4, zz5⟩ := six_live hngz
    obtain ⟨Vgz, hVgz⟩ : ∃ Vgz, (((((Wgz.setCell ⟨gz, 0, none⟩ (.int .i64 0)).setCell ⟨gz, 1, none⟩ (.bool false)).setCell ⟨gz, 2, none⟩ (.slice none 0 0)).setCell ⟨gz, 3, none⟩ (.string ⟨#[]⟩)).setCell ⟨gz, 4, none⟩ (.int .i64 0)).setCell ⟨gz, 5, none⟩ (.slice none 0 0) = Vgz := ⟨_, rfl⟩
    rw [hVgz] at mgz
    have hcgz : Below w18.heap.size w18 Vgz := by rw [← hVgz]; exact Go.Proofs.YtlifdpfhepamfaaRd.below_six hbgz (by rw [hgz]; exact Nat.le_refl _)
    have HB18 := Aside0.mk (below_step (below_step HB17.out hb) hcgz)
    have HGB18 := Aside0.mk (((hb.trans (hcgz.mono hb.size)).block _ (blk_lt HGB17.out)).trans HGB17.out)
    have HTX18 := Aside0.mk ((HTX17.out.below hb).below hcgz)
    have HT18 := Aside0.mk ((HT17.out.below hb).below hcgz)
    have HU18 := Aside0.mk ((HU17.out.below hb).below hcgz)
    have HGT18 := Aside0.mk (((hb.trans (hcgz.mono hb.size)).block _ (blk_lt HGT17.out)).trans HGT17.out)
    have HGU18 := Aside0.mk (((hb.trans (hcgz.mono hb.size)).block _ (blk_lt HGU17.out)).trans HGU17.out)
    clear hb HGZ hngz hbgz hcgz mgz HH17 HB17 HGB17 HTX17 HT17 HU17 HGT17 HGU17 orX orY orZ
    unfold noV tv
    go_wp2_with fail
    -- region 23
    obtain ⟨Y1, hY1⟩ : ∃ Y, IN p = Y := ⟨_, rfl⟩
    obtain ⟨Y2, hY2⟩ : ∃ Y, IN q = Y := ⟨_, rfl⟩
    have HSMHX : Aside0 (SameF 507 y1 (consT Y1 x) = some true) := ⟨by rw [HY1.out, ← hY1]; exact HSM.out p⟩
    have HSMHY : Aside0 (SameF 507 y2 (consT Y2 x) = some true) := ⟨by rw [HY2.out, ← hY2]; exact HSM.out q⟩
    have HXT := HT18
    have HYT := HU18
    have HBB := Aside0.mk (below_drew (Below.refl Vgz.heap.size Vgz))
    refine start_ (n := 30) (S := fun w' => Below Vgz.heap.size Vgz w') (ds := []) #[false, false, false, false, false, false, false, false, false, false, false, false, false, false, false, false, false, false, false, false, false, false, false, false, false, false, false, false, false, false] (by kernel_rfl) rfl rfl HBB.out (fun hHeld => ?_); refine with_tabW tab23 bits23 (fun HT_ HW_ => ?_)
    generalize Vgz.drew = wd at HBB hHeld ⊢
    refine pure_ (i := 0) (N := (some 169)) (v := ?_) (a' := ?_) #[true, false, false, false, false, false, false, false, false, false, false, false, false, false, false, false, false, false, false, false, false, false, false, false, false, false, false, false, false, false] rfl rfl (any_of HT_.out (by kernel_rfl)) (fun _ _ _ h => h) (Or.inl ⟨by rfl, ?_⟩) ?_ ?_
    rotate_left; (intro w'; go_simp; with_reducible rfl)
    rotate_left; (simp only [Act.put, List.setIfInBounds_toArray, List.set_cons_zero, List.set_cons_succ, i64_w, i32_w]; rfl)
    refine pure_ (i := 1) (N := (some 170)) (v := ?_) (a' := ?_) #[true, true, false, false, false, false, false, false, false, false, false, false, false, false, false, false, false, false, false, false, false, false, false, false, false, false, false, false, false, false] rfl rfl (any_of HT_.out (by kernel_rfl)) (fun _ _ _ h => h) (Or.inl ⟨by rfl, ?_⟩) ?_ ?_
    rotate_left; (intro w'; go_simp; with_reducible rfl)
    rotate_left; (simp only [Act.put, List.setIfInBounds_toArray, List.set_cons_zero, List.set_cons_succ, i64_w, i32_w]; rfl)
    refine pure_ (i := 2) (N := (some 171)) (v := ?_) (a' := ?_) #[true, true, true, false, false, false, false, false, false, false, false, false, false, false, false, false, false, false, false, false, false, false, false, false, false, false, false, false, false, false] rfl rfl (any_of HT_.out (by kernel_rfl)) (fun _ _ _ h => h) (Or.inl ⟨by rfl, ?_⟩) ?_ ?_
    rotate_left; (intro w'; go_simp; with_reducible rfl)
    rotate_left; (simp only [Act.put, List.setIfInBounds_toArray, List.set_cons_zero, List.set_cons_succ, i64_w, i32_w]; rfl)
    refine pure_ (i := 3) (N := (some 172)) (v := ?_) (a' := ?_) #[true, true, true, true, false, false, false, false, false, false, false, false, false, false, false, false, false, false, false, false, false, false, false, false, false, false, false, false, false, false] rfl rfl (any_of HT_.out (by kernel_rfl)) (fun _ _ _ h => h) (Or.inl ⟨by rfl, ?_⟩) ?_ ?_
    rotate_left; (intro w'; go_simp; with_reducible rfl)
    rotate_left; (simp only [Act.put, List.setIfInBounds_toArray, List.set_cons_zero, List.set_cons_succ, i64_w, i32_w]; rfl)
    refine pure_ (i := 4) (N := (some 173)) (v := ?_) (a' := ?_) #[true, true, true, true, true, false, false, false, false, false, false, false, false, false, false, false, false, false, false, false, false, false, false, false, false, false, false, false, false, false] rfl rfl (any_of HT_.out (by kernel_rfl)) (fun _ _ _ h => h) (Or.inl ⟨by rfl, ?_⟩) ?_ ?_
    rotate_left; (intro w'; go_simp; with_reducible rfl)
    rotate_left; (simp only [Act.put, List.setIfInBounds_toArray, List.set_cons_zero, List.set_cons_succ, i64_w, i32_w]; rfl)
    refine pure_ (i := 5) (N := (some 174)) (v := ?_) (a' := ?_) #[true, true, true, true, true, true, false, false, false, false, false, false, false, false, false, false, false, false, false, false, false, false, false, false, false, false, false, false, false, false] rfl rfl (any_of HT_.out (by kernel_rfl)) (fun _ _ _ h => h) (Or.inl ⟨by rfl, ?_⟩) ?_ ?_
    rotate_left; (intro w'; go_simp; with_reducible rfl)
    rotate_left; (simp only [Act.put, List.setIfInBounds_toArray, List.set_cons_zero, List.set_cons_succ, i64_w, i32_w]; rfl)
    refine pure_ (i := 6) (N := (some 175)) (v := (.bool true)) (a' := ?_) #[true, true, true, true, true, true, true, false, false, false, false, false, false, false, false, false, false, false, false, false, false, false, false, false, false, false, false, false, false, false] rfl rfl (any_of HT_.out (by kernel_rfl)) (fun _ _ _ h => h) (Or.inl ⟨by rfl, ?_⟩) ?_ ?_
    · (intro w'; go_simp; all_goals (first | done | rfl))
    rotate_left; (simp only [Act.put, List.setIfInBounds_toArray, List.set_cons_zero, List.set_cons_succ, i64_w, i32_w]; rfl)
    refine pure_ (i := 7) (N := (some 176)) (v := ?_) (a' := ?_) #[true, true, true, true, true, true, true, true, false, false, false, false, false, false, false, false, false, false, false, false, false, false, false, false, false, false, false, false, false, false] rfl rfl (any_of HT_.out (by kernel_rfl)) (fun _ _ _ h => h) (Or.inl ⟨by rfl, ?_⟩) ?_ ?_
    rotate_left; (intro w'; go_simp; with_reducible rfl)
    rotate_left; (simp only [Act.put, List.setIfInBounds_toArray, List.set_cons_zero, List.set_cons_succ, i64_w, i32_w]; rfl)
    refine pure_ (i := 8) (N := (some 177)) (v := ?_) (a' := ?_) #[true, true, true, true, true, true, true, true, true, false, false, false, false, false, false, false, false, false, false, false, false, false, false, false, false, false, false, false, false, false] rfl rfl (any_of HT_.out (by kernel_rfl)) (fun _ _ _ h => h) (Or.inl ⟨by rfl, ?_⟩) ?_ ?_
    rotate_left; (intro w'; go_simp; with_reducible rfl)
    rotate_left; (simp only [Act.put, List.setIfInBounds_toArray, List.set_cons_zero, List.set_cons_succ, i64_w, i32_w]; rfl)
    refine take_ (i := 9) (N := (some 178)) (v := ?_) (a' := ?_) #[true, true, true, true, true, true, true, true, true, true, false, false, false, false, false, false, false, false, false, false, false, false, false, false, false, false, false, false, false, false] rfl rfl (take_ofW HT_.out HW_.out (by kernel_rfl)) (fun _ _ _ h => h) (Or.inl ⟨by rfl, ?_⟩) hHeld ?_ ?_
    rotate_left; (intro w' hs; obtain ⟨c0, c1, c2, c3, c4, c5⟩ := six_cells ((hs.block _ (blk_lt HGT18.out)).trans HGT18.out); go_simp; with_reducible rfl)
    rotate_left; (simp only [Act.put, List.setIfInBounds_toArray, List.set_cons_zero, List.set_cons_succ, i64_w, i32_w]; rfl)
    refine pure_ (i := 10) (N := (some 179)) (v := ?_) (a' := ?_) #[true, true, true, true, true, true, true, true, true, true, true, false, false, false, false, false, false, false, false, false, false, false, false, false, false, false, false, false, false, false] rfl rfl (any_of HT_.out (by kernel_rfl)) (fun _ _ _ h => h) (Or.inl ⟨by rfl, ?_⟩) ?_ ?_
    rotate_left; (intro w'; go_simp; with_reducible rfl)
    rotate_left; (simp only [Act.put, List.setIfInBounds_toArray, List.set_cons_zero, List.set_cons_succ, i64_w, i32_w]; rfl)
    refine take_ (i := 12) (N := (some 181)) (v := ?_) (a' := ?_) #[true, true, true, true, true, true, true, true, true, true, true, false, true, false, false, false, false, false, false, false, false, false, false, false, false, false, false, false, false, false] rfl rfl (take_ofW HT_.out HW_.out (by kernel_rfl)) (fun _ _ _ h => h) (Or.inl ⟨by rfl, ?_⟩) hHeld ?_ ?_
    rotate_left; (intro w' hs; obtain ⟨c0, c1, c2, c3, c4, c5⟩ := six_cells ((hs.block _ (blk_lt HGB18.out)).trans HGB18.out); go_simp; with_reducible rfl)
    rotate_left; (simp only [Act.put, List.setIfInBounds_toArray, List.set_cons_zero, List.set_cons_succ, i64_w, i32_w]; rfl)
    refine one_ (i := 11) (N := (some 180)) #[true, true, true, true, true, true, true, true, true, true, true, true, true, false, false, false, false, false, false, false, false, false, false, false, false, false, false, false, false, false] rfl rfl (one_of HT_.out (by kernel_rfl)) (by decide) (fun K hK => ?_)
    refine goes_ Try.func48 (by kernel_rfl) rfl #[.int .i64 p] (by rfl) rfl rfl (by (try simp only [List.map_toArray, List.map_cons, List.map_nil]); first | done | rfl) ?_
    refine (i1_any _ p Y1 hY1 (by have := HPB.out; omega) (by have := HPB.out; omega)).mono ?_
    rintro e wiHX ⟨U2, uc2, U5, uc5, rfl, hTI, hb⟩
    refine ⟨_, rfl, ?_⟩
    have HTI := Aside0.mk hTI
    have n0_ := Aside0.mk (below_step HBB.out hb)
    clear HBB hHeld hb
    have HBB := n0_
    clear n0_
    refine hK.out _ _ HBB.out (fun hHeld => ?_)
    clear hK K
    refine norm_ (a' := ?_) ?_ ?_
    rotate_left
    · show Act.put _ (some 180) _ = _
      simp only [Act.put, List.setIfInBounds_toArray, List.set_cons_zero, List.set_cons_succ, i64_w, i32_w]
      rfl
    refine one_ (i := 13) (N := (some 182)) #[true, true, true, true, true, true, true, true, true, true, true, true, true, true, false, false, false, false, false, false, false, false, false, false, false, false, false, false, false, false] rfl rfl (one_of HT_.out (by kernel_rfl)) (by decide) (fun K hK => ?_)
    refine value_ (w1 := wiHX.alloc (.cells #[.int .i64 Y1.f0, .bool Y1.f1.f0, .slice U2 Y1.f1.f1.length uc2, .string Y1.f2, .int .i64 Y1.f3, .slice U5 Y1.f4.length uc5, .int .i64 x.f0, .bool x.f1.f0, .slice A2 x.f1.f1.length a2, .string x.f2, .int .i64 x.f3, .slice A5 x.f4.length a5] 43)) (v := .slice (some ⟨wiHX.heap.size, 0, none⟩) 2 2) (by rfl) rfl ?_ ?_
    · go_simp
    have hnew := heap_alloc_new wiHX (.cells #[.int .i64 Y1.f0, .bool Y1.f1.f0, .slice U2 Y1.f1.f1.length uc2, .string Y1.f2, .int .i64 Y1.f3, .slice U5 Y1.f4.length uc5, .int .i64 x.f0, .bool x.f1.f0, .slice A2 x.f1.f1.length a2, .string x.f2, .int .i64 x.f3, .slice A5 x.f4.length a5] 43)
    have hbn : Below wiHX.heap.size wiHX (wiHX.alloc (.cells #[.int .i64 Y1.f0, .bool Y1.f1.f0, .slice U2 Y1.f1.f1.length uc2, .string Y1.f2, .int .i64 Y1.f3, .slice U5 Y1.f4.length uc5, .int .i64 x.f0, .bool x.f1.f0, .slice A2 x.f1.f1.length a2, .string x.f2, .int .i64 x.f3, .slice A5 x.f4.length a5] 43)) := below_alloc (Below.refl _ _) _
    obtain ⟨wlHX, hwlHX⟩ : ∃ wlHX, wiHX.alloc (.cells #[.int .i64 Y1.f0, .bool Y1.f1.f0, .slice U2 Y1.f1.f1.length uc2, .string Y1.f2, .int .i64 Y1.f3, .slice U5 Y1.f4.length uc5, .int .i64 x.f0, .bool x.f1.f0, .slice A2 x.f1.f1.length a2, .string x.f2, .int .i64 x.f3, .slice A5 x.f4.length a5] 43) = wlHX := ⟨_, rfl⟩
    obtain ⟨nb, hnb⟩ : ∃ nb, wiHX.heap.size = nb := ⟨_, rfl⟩
    rw [hwlHX] at hnew hbn ⊢
    rw [hnb] at hnew ⊢
    have n0_ := Aside0.mk (below_step HBB.out hbn)
    clear HBB hHeld
    have HBB := n0_
    clear n0_
    have HNEW := Aside0.mk hnew
    have HBN := Aside0.mk hbn
    clear hnew hbn hwlHX hnb
    refine hK.out _ _ HBB.out (fun hHeld => ?_)
    clear hK K
    refine norm_ (a' := ?_) ?_ ?_
    rotate_left
    · show Act.put _ (some 182) _ = _
      simp only [Act.put, List.setIfInBounds_toArray, List.set_cons_zero, List.set_cons_succ, i64_w, i32_w]
      rfl
    refine pure_ (i := 14) (N := (some 183)) (v := ?_) (a' := ?_) #[true, true, true, true, true, true, true, true, true, true, true, true, true, true, true, false, false, false, false, false, false, false, false, false, false, false, false, false, false, false] rfl rfl (any_of HT_.out (by kernel_rfl)) (fun _ _ _ h => h) (Or.inl ⟨by rfl, ?_⟩) ?_ ?_
    rotate_left; (intro w'; go_simp; with_reducible rfl)
    rotate_left; (simp only [Act.put, List.setIfInBounds_toArray, List.set_cons_zero, List.set_cons_succ, i64_w, i32_w]; rfl)
    have HTN : Aside0 (TN wlHX (consT Y1 x) none 0 (some ⟨nb, 0, none⟩) 2) := ⟨tn_cons (tn_of (HTI.out.below HBN.out)) (tn_of (HTX18.out.below HBB.out)) HNEW.out⟩
    refine one_ (i := 15) (N := (some 184)) #[true, true, true, true, true, true, true, true, true, true, true, true, true, true, true, true, false, false, false, false, false, false, false, false, false, false, false, false, false, false] rfl rfl (one_of HT_.out (by kernel_rfl)) (by decide) (fun K hK => ?_)
    refine goes_ Try.func47 (by kernel_rfl) rfl #[.agg (cellsT y1 B2 b2_ B5 b5_), .agg (cellsT (consT Y1 x) none 0 (some ⟨nb, 0, none⟩) 2)] (by rfl) rfl rfl (by (try simp only [List.map_toArray, List.map_cons, List.map_nil]); first | done | rfl) ?_
    refine (same_tn (K := 507) (tn_of (HXT.out.below HBB.out)) HTN.out HSMHX.out).mono ?_
    rintro e wsHX ⟨rfl, hb⟩
    refine ⟨_, rfl, ?_⟩
    have n0_ := Aside0.mk (below_step HBB.out hb)
    clear HBB hHeld hb
    have HBB := n0_
    clear n0_
    refine hK.out _ _ HBB.out (fun hHeld => ?_)
    clear hK K
    refine norm_ (a' := ?_) ?_ ?_
    rotate_left
    · show Act.put _ (some 184) _ = _
      simp only [Act.put, List.setIfInBounds_toArray, List.set_cons_zero, List.set_cons_succ, i64_w, i32_w]
      rfl
    clear HTN HNEW HBN HTI
    refine pure_ (i := 16) (N := (some 185)) (v := ?_) (a' := ?_) #[true, true, true, true, true, true, true, true, true, true, true, true, true, true, true, true, true, false, false, false, false, false, false, false, false, false, false, false, false, false] rfl rfl (any_of HT_.out (by kernel_rfl)) (fun _ _ _ h => h) (Or.inl ⟨by rfl, ?_⟩) ?_ ?_
    rotate_left; (intro w'; go_simp; with_reducible rfl)
    rotate_left; (simp only [Act.put, List.setIfInBounds_toArray, List.set_cons_zero, List.set_cons_succ, i64_w, i32_w]; rfl)
    refine pure_ (i := 17) (N := (some 186)) (v := ?_) (a' := ?_) #[true, true, true, true, true, true, true, true, true, true, true, true, true, true, true, true, true, true, false, false, false, false, false, false, false, false, false, false, false, false] rfl rfl (any_of HT_.out (by kernel_rfl)) (fun _ _ _ h => h) (Or.inl ⟨by rfl, ?_⟩) ?_ ?_
    rotate_left; (intro w'; go_simp; with_reducible rfl)
    rotate_left; (simp only [Act.put, List.setIfInBounds_toArray, List.set_cons_zero, List.set_cons_succ, i64_w, i32_w]; rfl)
    refine take_ (i := 18) (N := (some 187)) (v := ?_) (a' := ?_) #[true, true, true, true, true, true, true, true, true, true, true, true, true, true, true, true, true, true, true, false, false, false, false, false, false, false, false, false, false, false] rfl rfl (take_ofW HT_.out HW_.out (by kernel_rfl)) (fun _ _ _ h => h) (Or.inl ⟨by rfl, ?_⟩) hHeld ?_ ?_
    rotate_left; (intro w' hs; obtain ⟨c0, c1, c2, c3, c4, c5⟩ := six_cells ((hs.block _ (blk_lt HGU18.out)).trans HGU18.out); go_simp; with_reducible rfl)
    rotate_left; (simp only [Act.put, List.setIfInBounds_toArray, List.set_cons_zero, List.set_cons_succ, i64_w, i32_w]; rfl)
    refine pure_ (i := 19) (N := (some 188)) (v := ?_) (a' := ?_) #[true, true, true, true, true, true, true, true, true, true, true, true, true, true, true, true, true, true, true, true, false, false, false, false, false, false, false, false, false, false] rfl rfl (any_of HT_.out (by kernel_rfl)) (fun _ _ _ h => h) (Or.inl ⟨by rfl, ?_⟩) ?_ ?_
    rotate_left; (intro w'; go_simp; with_reducible rfl)
    rotate_left; (simp only [Act.put, List.setIfInBounds_toArray, List.set_cons_zero, List.set_cons_succ, i64_w, i32_w]; rfl)
    refine take_ (i := 21) (N := (some 190)) (v := ?_) (a' := ?_) #[true, true, true, true, true, true, true, true, true, true, true, true, true, true, true, true, true, true, true, true, false, true, false, false, false, false, false, false, false, false] rfl rfl (take_ofW HT_.out HW_.out (by kernel_rfl)) (fun _ _ _ h => h) (Or.inl ⟨by rfl, ?_⟩) hHeld ?_ ?_
    rotate_left; (intro w' hs; obtain ⟨c0, c1, c2, c3, c4, c5⟩ := six_cells ((hs.block _ (blk_lt HGB18.out)).trans HGB18.out); go_simp; with_reducible rfl)
    rotate_left; (simp only [Act.put, List.setIfInBounds_toArray, List.set_cons_zero, List.set_cons_succ, i64_w, i32_w]; rfl)
    refine one_ (i := 20) (N := (some 189)) #[true, true, true, true, true, true, true, true, true, true, true, true, true, true, true, true, true, true, true, true, true, true, false, false, false, false, false, false, false, false] rfl rfl (one_of HT_.out (by kernel_rfl)) (by decide) (fun K hK => ?_)
    refine goes_ Try.func48 (by kernel_rfl) rfl #[.int .i64 q] (by rfl) rfl rfl (by (try simp only [List.map_toArray, List.map_cons, List.map_nil]); first | done | rfl) ?_
    refine (i1_any _ q Y2 hY2 (by have := HPB.out; omega) (by have := HPB.out; omega)).mono ?_
    rintro e wiHY ⟨U2, uc2, U5, uc5, rfl, hTI, hb⟩
    refine ⟨_, rfl, ?_⟩
    have HTI := Aside0.mk hTI
    have n0_ := Aside0.mk (below_step HBB.out hb)
    clear HBB hHeld hb
    have HBB := n0_
    clear n0_
    refine hK.out _ _ HBB.out (fun hHeld => ?_)
    clear hK K
    refine norm_ (a' := ?_) ?_ ?_
    rotate_left
    · show Act.put _ (some 189) _ = _
      simp only [Act.put, List.setIfInBounds_toArray, List.set_cons_zero, List.set_cons_succ, i64_w, i32_w]
      rfl
    refine one_ (i := 22) (N := (some 191)) #[true, true, true, true, true, true, true, true, true, true, true, true, true, true, true, true, true, true, true, true, true, true, true, false, false, false, false, false, false, false] rfl rfl (one_of HT_.out (by kernel_rfl)) (by decide) (fun K hK => ?_)
    refine value_ (w1 := wiHY.alloc (.cells #[.int .i64 Y2.f0, .bool Y2.f1.f0, .slice U2 Y2.f1.f1.length uc2, .string Y2.f2, .int .i64 Y2.f3, .slice U5 Y2.f4.length uc5, .int .i64 x.f0, .bool x.f1.f0, .slice A2 x.f1.f1.length a2, .string x.f2, .int .i64 x.f3, .slice A5 x.f4.length a5] 43)) (v := .slice (some ⟨wiHY.heap.size, 0, none⟩) 2 2) (by rfl) rfl ?_ ?_
    · go_simp
    have hnew := heap_alloc_new wiHY (.cells #[.int .i64 Y2.f0, .bool Y2.f1.f0, .slice U2 Y2.f1.f1.length uc2, .string Y2.f2, .int .i64 Y2.f3, .slice U5 Y2.f4.length uc5, .int .i64 x.f0, .bool x.f1.f0, .slice A2 x.f1.f1.length a2, .string x.f2, .int .i64 x.f3, .slice A5 x.f4.length a5] 43)
    have hbn : Below wiHY.heap.size wiHY (wiHY.alloc (.cells #[.int .i64 Y2.f0, .bool Y2.f1.f0, .slice U2 Y2.f1.f1.length uc2, .string Y2.f2, .int .i64 Y2.f3, .slice U5 Y2.f4.length uc5, .int .i64 x.f0, .bool x.f1.f0, .slice A2 x.f1.f1.length a2, .string x.f2, .int .i64 x.f3, .slice A5 x.f4.length a5] 43)) := below_alloc (Below.refl _ _) _
    obtain ⟨wlHY, hwlHY⟩ : ∃ wlHY, wiHY.alloc (.cells #[.int .i64 Y2.f0, .bool Y2.f1.f0, .slice U2 Y2.f1.f1.length uc2, .string Y2.f2, .int .i64 Y2.f3, .slice U5 Y2.f4.length uc5, .int .i64 x.f0, .bool x.f1.f0, .slice A2 x.f1.f1.length a2, .string x.f2, .int .i64 x.f3, .slice A5 x.f4.length a5] 43) = wlHY := ⟨_, rfl⟩
    obtain ⟨nb, hnb⟩ : ∃ nb, wiHY.heap.size = nb := ⟨_, rfl⟩
    rw [hwlHY] at hnew hbn ⊢
    rw [hnb] at hnew ⊢
    have n0_ := Aside0.mk (below_step HBB.out hbn)
    clear HBB hHeld
    have HBB := n0_
    clear n0_
    have HNEW := Aside0.mk hnew
    have HBN := Aside0.mk hbn
    clear hnew hbn hwlHY hnb
    refine hK.out _ _ HBB.out (fun hHeld => ?_)
    clear hK K
    refine norm_ (a' := ?_) ?_ ?_
    rotate_left
    · show Act.put _ (some 191) _ = _
      simp only [Act.put, List.setIfInBounds_toArray, List.set_cons_zero, List.set_cons_succ, i64_w, i32_w]
      rfl
    refine pure_ (i := 23) (N := (some 192)) (v := ?_) (a' := ?_) #[true, true, true, true, true, true, true, true, true, true, true, true, true, true, true, true, true, true, true, true, true, true, true, true, false, false, false, false, false, false] rfl rfl (any_of HT_.out (by kernel_rfl)) (fun _ _ _ h => h) (Or.inl ⟨by rfl, ?_⟩) ?_ ?_
    rotate_left; (intro w'; go_simp; with_reducible rfl)
    rotate_left; (simp only [Act.put, List.setIfInBounds_toArray, List.set_cons_zero, List.set_cons_succ, i64_w, i32_w]; rfl)
    have HTN : Aside0 (TN wlHY (consT Y2 x) none 0 (some ⟨nb, 0, none⟩) 2) := ⟨tn_cons (tn_of (HTI.out.below HBN.out)) (tn_of (HTX18.out.below HBB.out)) HNEW.out⟩
    refine one_ (i := 24) (N := (some 193)) #[true, true, true, true, true, true, true, true, true, true, true, true, true, true, true, true, true, true, true, true, true, true, true, true, true, false, false, false, false, false] rfl rfl (one_of HT_.out (by kernel_rfl)) (by decide) (fun K hK => ?_)
    refine goes_ Try.func47 (by kernel_rfl) rfl #[.agg (cellsT y2 C2 c2_ C5 c5_), .agg (cellsT (consT Y2 x) none 0 (some ⟨nb, 0, none⟩) 2)] (by rfl) rfl rfl (by (try simp only [List.map_toArray, List.map_cons, List.map_nil]); first | done | rfl) ?_
    refine (same_tn (K := 507) (tn_of (HYT.out.below HBB.out)) HTN.out HSMHY.out).mono ?_
    rintro e wsHY ⟨rfl, hb⟩
    refine ⟨_, rfl, ?_⟩
    have n0_ := Aside0.mk (below_step HBB.out hb)
    clear HBB hHeld hb
    have HBB := n0_
    clear n0_
    refine hK.out _ _ HBB.out (fun hHeld => ?_)
    clear hK K
    refine norm_ (a' := ?_) ?_ ?_
    rotate_left
    · show Act.put _ (some 193) _ = _
      simp only [Act.put, List.setIfInBounds_toArray, List.set_cons_zero, List.set_cons_succ, i64_w, i32_w]
      rfl
    clear HTN HNEW HBN HTI
    refine pure_ (i := 25) (N := (some 194)) (v := ?_) (a' := ?_) #[true, true, true, true, true, true, true, true, true, true, true, true, true, true, true, true, true, true, true, true, true, true, true, true, true, true, false, false, false, false] rfl rfl (any_of HT_.out (by kernel_rfl)) (fun _ _ _ h => h) (Or.inl ⟨by rfl, ?_⟩) ?_ ?_
    rotate_left; (intro w'; go_simp; with_reducible rfl)
    rotate_left; (simp only [Act.put, List.setIfInBounds_toArray, List.set_cons_zero, List.set_cons_succ, i64_w, i32_w]; rfl)
    refine pure_ (i := 26) (N := (some 195)) (v := ?_) (a' := ?_) #[true, true, true, true, true, true, true, true, true, true, true, true, true, true, true, true, true, true, true, true, true, true, true, true, true, true, true, false, false, false] rfl rfl (any_of HT_.out (by kernel_rfl)) (fun _ _ _ h => h) (Or.inl ⟨by rfl, ?_⟩) ?_ ?_
    rotate_left; (intro w'; go_simp; with_reducible rfl)
    rotate_left; (simp only [Act.put, List.setIfInBounds_toArray, List.set_cons_zero, List.set_cons_succ, i64_w, i32_w]; rfl)
    refine one_ (i := 27) (N := (some 196)) #[true, true, true, true, true, true, true, true, true, true, true, true, true, true, true, true, true, true, true, true, true, true, true, true, true, true, true, true, false, false] rfl rfl (one_of HT_.out (by kernel_rfl)) (by decide) (fun K hK => ?_)
    refine goes_ Try.func16 (by kernel_rfl) rfl #[] (by rfl) rfl rfl (by (try simp only [List.map_toArray, List.map_cons, List.map_nil]); first | done | rfl) ?_
    refine (Go.Proofs.YtlifdpfhepamfaaHv.awake_calls _).mono ?_
    rintro e wz ⟨rfl, hb⟩
    refine ⟨_, rfl, ?_⟩
    have n0_ := Aside0.mk (below_step HBB.out hb)
    clear HBB hHeld hb
    have HBB := n0_
    clear n0_
    refine hK.out _ _ HBB.out (fun hHeld => ?_)
    clear hK K
    refine norm_ (a' := ?_) ?_ ?_
    rotate_left
    · show Act.put _ (some 196) _ = _
      simp only [Act.put, List.setIfInBounds_toArray, List.set_cons_zero, List.set_cons_succ, i64_w, i32_w]
      rfl
    refine pure_ (i := 28) (N := (some 197)) (v := ?_) (a' := ?_) #[true, true, true, true, true, true, true, true, true, true, true, true, true, true, true, true, true, true, true, true, true, true, true, true, true, true, true, true, true, false] rfl rfl (any_of HT_.out (by kernel_rfl)) (fun _ _ _ h => h) (Or.inl ⟨by rfl, ?_⟩) ?_ ?_
    rotate_left; (intro w'; go_simp; with_reducible rfl)
    rotate_left; (simp only [Act.put, List.setIfInBounds_toArray, List.set_cons_zero, List.set_cons_succ, i64_w, i32_w]; rfl)
    refine pure_ (i := 29) (N := (some 6)) (v := ?_) (a' := ?_) #[true, true, true, true, true, true, true, true, true, true, true, true, true, true, true, true, true, true, true, true, true, true, true, true, true, true, true, true, true, true] rfl rfl (any_of HT_.out (by kernel_rfl)) (fun _ _ _ h => h) (Or.inl ⟨by rfl, ?_⟩) ?_ ?_
    rotate_left; (intro w'; go_simp; with_reducible rfl)
    rotate_left; (simp only [Act.put, List.setIfInBounds_toArray, List.set_cons_zero, List.set_cons_succ, i64_w, i32_w]; rfl)
    refine done_ (done_of HT_.out (by kernel_rfl)) ?_
    -- region 23 done
    have HFIN := Aside0.mk (below_step HB18.out HBB.out)
    clear HBB hHeld
    go_wp2_with fail
    go_ret
    exact ⟨rfl, HFIN.out⟩
end Go.Proofs.YtlifdpfhepamfaaHx
