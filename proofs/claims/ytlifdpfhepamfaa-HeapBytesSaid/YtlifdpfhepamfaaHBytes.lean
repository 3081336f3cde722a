/- HeapBytes: the walk. -/
import Derived.Test.YtlifdpfhepamfaaHv
import Derived.Test.YtlifdpfhepamfaaRt
import Derived.Test.YtlifdpfhepamfaaPlace
namespace Go.Proofs.YtlifdpfhepamfaaHBytes
open Go.RowKit Go.Maps Go.Proofs.YtlifdpfhepamfaaW.PrintWords Go.Proofs.YtlifdpfhepamfaaW.PrintLast Go.Proofs.YtlifdpfhepamfaaW.PrintMore Go.Proofs.YtlifdpfhepamfaaMem Go.Proofs.YtlifdpfhepamfaaLeaf Go.Proofs.YtlifdpfhepamfaaBits Go.Proofs.Ytlifdpfhepamfaa.PHe Go.Proofs.YtlifdpfhepamfaaRow Go.Proofs.YtlifdpfhepamfaaAr Go.Proofs.YtlifdpfhepamfaaHp Go.Proofs.YtlifdpfhepamfaaHo Go.Proofs.YtlifdpfhepamfaaWd Go.Proofs.YtlifdpfhepamfaaHb Go.Proofs.YtlifdpfhepamfaaRd Go.Proofs.YtlifdpfhepamfaaRt Go.Proofs
set_option linter.unusedVariables false
set_option linter.unusedSimpArgs false
theorem info8 : (Try.prog.info? 5).map (fun i => (i.zero, i.size, i.bytes)) = some (some (.int .u8 0), 1, 1) := by kernel_rfl
set_option maxHeartbeats 4000000 in
set_option maxRecDepth 100000 in
/-- Bytes in new memory. -/
theorem lbytes_calls (w : World) (A : Option Addr) (c : Nat) (xs : List Int) (hr : ReadsInt w .u8 A xs.length xs) (hm : xs.length ≤ 100000) :
    Calls Try.prog 29 #[.slice A xs.length c] w fun e w' => ∃ A' c', e = .returned (.slice A' xs.length c') ∧ ReadsInt w' .u8 A' xs.length xs ∧ xs.length ≤ c' ∧ Below w.heap.size w w' := by
  obtain ⟨i0, hi0, hz⟩ := Option.map_eq_some_iff.1 info8
  simp only [Prod.mk.injEq] at hz
  obtain ⟨hz0, hz1, hz2⟩ := hz
  have HI := Aside0.mk (And.intro hi0 (And.intro hz0 (And.intro hz1 hz2)))
  clear hi0 hz0 hz1 hz2
  have HR := Aside0.mk hr
  obtain ⟨n, hn⟩ : ∃ n, xs.length = n := ⟨_, rfl⟩
  have HN := Aside0.mk hn
  rw [hn] at hm HR ⊢
  clear hr hn
  go_enter Try.func29, Try.ntmps29
  go_wp2_with ((with_reducible refine wp_append_nil (o := ⟨some 4, _, _, _, _, _⟩) rfl (.const (.slice none 0 0)) (.tmp 3) 33 rfl 5 i0 _ 1 .u8 Try.underlying33 HI.out.1 HI.out.2.1 HI.out.2.2.1 HI.out.2.2.2 ?_ A n c xs ?_ ?_ HR.out ?_ ?_ ?_); rfl; rfl; rfl; (unfold maxLen; omega); omega; intro A' c' w' hR hB; have HRR := Aside0.mk hR; have HBB := Aside0.mk hB; clear hR hB)
  go_wp2
  go_ret
  obtain ⟨q1, q2, q3⟩ := Kd.R_reads' HRR.out
  refine ⟨_, _, rfl, ?_, q2, HBB.out⟩
  have := Kd.reads_of_C (enc := Value.int .u8) (d := (0 : Int)) (h1 := fun _ => rfl) q3
  rw [HN.out] at this
  exact this
/-- Two heaps side by side, in new memory. -/
structure Two (w W : World) (h g gw m : Nat) (l : List Int) (n : Nat) (h' g' gw' m' : Nat) (l' : List Int) (n' : Nat) : Prop where
  a : Hp w.heap.size W h g gw m (.slice none 0 0) l n []
  b : Hp w.heap.size W h' g' gw' m' (.slice none 0 0) l' n' []
  ne : ∀ k, SH h g gw m (.slice none 0 0) k → ¬ SH h' g' gw' m' (.slice none 0 0) k
  be : Below w.heap.size w W
section
variable {w W W1 : World} {h g gw m : Nat} {l l1 : List Int} {n h' g' gw' m' : Nat} {l' l1' : List Int} {n' : Nat}
theorem Two.below (H : Two w W h g gw m l n h' g' gw' m' l' n') (hb : Below W.heap.size W W1) : Two w W1 h g gw m l n h' g' gw' m' l' n' :=
  ⟨H.a.below hb, H.b.below hb, H.ne, below_step H.be hb⟩
theorem Two.fst (H : Two w W h g gw m l n h' g' gw' m' l' n') (ha : Hp w.heap.size W1 h g gw m (.slice none 0 0) l1 n []) (hm : Mods (SH h g gw m (.slice none 0 0)) W W1) : Two w W1 h g gw m l1 n h' g' gw' m' l' n' :=
  ⟨ha, H.b.mods hm (fun k hk hs => H.ne k hs hk), H.ne, below_mods H.be hm H.be.size (fun k hk => (H.a.foot k hk).1)⟩
theorem Two.snd (H : Two w W h g gw m l n h' g' gw' m' l' n') (ha : Hp w.heap.size W1 h' g' gw' m' (.slice none 0 0) l1' n' []) (hm : Mods (SH h' g' gw' m' (.slice none 0 0)) W W1) : Two w W1 h g gw m l n h' g' gw' m' l1' n' :=
  ⟨H.a.mods hm (fun k hk hs => H.ne k hk hs), ha, H.ne, below_mods H.be hm H.be.size (fun k hk => (H.b.foot k hk).1)⟩
theorem Two.cells (H : Two w W h g gw m l n h' g' gw' m' l' n') : W.cell? ⟨h, 0, none⟩ = some (.pointer (some ⟨g, 0, none⟩)) ∧ W.cell? ⟨h', 0, none⟩ = some (.pointer (some ⟨g', 0, none⟩)) := ⟨H.a.cells.1, H.b.cells.1⟩
end
theorem reads_be {w W : World} {k : IntKind} {A : Option Addr} {n : Nat} {xs : List Int} (h : ReadsInt w k A n xs) (hb : Below w.heap.size w W) : ReadsInt W k A n xs := reads_mods h (Mods.of_below (fun _ => False) hb) (fun _ _ => id)
theorem size_new {a : Int} {n : Nat} (ha : a = (n : Int)) (hn : n ≤ 32768) : sizeA a = n := by
  unfold sizeA
  subst ha
  by_cases h : n = 0
  · subst h; rfl
  · rw [if_neg (by omega), if_pos (by omega)]; rfl
theorem wnat {k : Nat} (h : k ≤ 1000000) : wrap64 (k : Int) = (k : Int) := by unfold wrap64; omega
theorem unat {k : Nat} (h : k ≤ 1000000) : IntKind.u64.wrap (k : Int) = (k : Int) := by rw [wrap_u64]; omega
theorem wN {x : Int} {k : Nat} (h : x = (k : Int)) (hk : k ≤ 1000000) : wrap64 x = (k : Int) := by rw [h]; exact wnat hk
theorem uN {x : Int} {k : Nat} (h : x = (k : Int)) (hk : k ≤ 1000000) : IntKind.u64.wrap x = (k : Int) := by rw [h]; exact unat hk
theorem wI {x : Int} (h : 0 ≤ x ∧ x ≤ 1000000) : wrap64 x = x := by unfold wrap64; omega
theorem uI {x : Int} (h : 0 ≤ x ∧ x ≤ 1000000) : IntKind.u64.wrap x = x := by rw [wrap_u64]; omega
theorem tdiv8 (k : Nat) : Int.tdiv (k : Int) 8 = ((k / 8 : Nat) : Int) := by rw [Int.tdiv_eq_ediv_of_nonneg (by omega)]; omega
theorem nums_ok {len q nn rm n1 n2 : Nat} {y : Int} (hq : (len + 7) / 8 = q) (hnn : 2 + q = nn) (hn1 : nn + rm = n1) (hn2 : nn - 1 = n2) (hy : 2 + 4 * ((nn : Int) + 3) = y) (hlen : len ≤ 2000) (hr : rm < 3) :
    wrap64 ((len : Int) + 7) = (len : Int) + 7 ∧ ((len : Int) + 7) / 8 = (q : Int) ∧ wrap64 (q : Int) = (q : Int) ∧ 2 + (q : Int) = (nn : Int) ∧ wrap64 (nn : Int) = (nn : Int) ∧ wrap64 ((nn : Int) + (rm : Int)) = (n1 : Int) ∧ wrap64 ((nn : Int) - 1) = (n2 : Int) ∧
    wrap64 ((nn : Int) + 3) = (nn : Int) + 3 ∧ IntKind.u64.wrap ((nn : Int) + 3) = (nn : Int) + 3 ∧ IntKind.u64.wrap (4 * ((nn : Int) + 3)) = 4 * ((nn : Int) + 3) ∧ IntKind.u64.wrap (2 + 4 * ((nn : Int) + 3)) = y :=
  ⟨wI (by omega), by omega, wnat (by omega), by omega, wnat (by omega), wN (by omega) (by omega), wN (by omega) (by omega), wI (by omega), uI (by omega), uI (by omega), by
    rw [hy]; exact uI (by omega)⟩
set_option maxHeartbeats 8000000 in
set_option maxRecDepth 100000 in
theorem law_calls (A : Option Addr) (len c : Nat) (room : Int) (bs : List Int) (w : World) (hh : ReadsInt w .u8 A len bs ∧ len ≤ c ∧ B8 bs ∧ len ≤ maxLen) :
    Calls Try.prog 7 #[.slice A len c, .int .i64 room] w fun e w' => e = .returned (.bool true) ∧ Below w.heap.size w w' := by
  obtain ⟨hr, hc, hb8, hlm⟩ := hh
  by_cases hlen : 2000 < len
  · have b0 : ((2000 : Int) < (len : Int)) := by omega
    clear hr hb8 hc
    go_enter Try.func7, Try.ntmps7
    go_wp2_with fail
    refine (Go.Proofs.YtlifdpfhepamfaaHv.awake_calls _).mono ?_
    rintro e w1 ⟨rfl, hb⟩
    have HB := Aside0.mk hb
    clear hb
    go_wp2_with fail
    go_ret
    exact ⟨rfl, HB.out⟩
  · have b0 : ¬ ((2000 : Int) < (len : Int)) := by omega
    have hln : bs.length = len := hr.1
    have HR := Aside0.mk hr
    have H8 := Aside0.mk hb8
    have HLN := Aside0.mk hln
    have HCL := Aside0.mk hc
    obtain ⟨q, hq⟩ : ∃ q, (len + 7) / 8 = q := ⟨_, rfl⟩
    obtain ⟨nn, hnn⟩ : ∃ nn, 2 + q = nn := ⟨_, rfl⟩
    have r0 := Int.emod_nonneg room (show (3 : Int) ≠ 0 by omega)
    have r1 := Int.emod_lt_of_pos room (show (0 : Int) < 3 by omega)
    obtain ⟨rm, hrm⟩ : ∃ rm : Nat, room % 3 = (rm : Int) := ⟨(room % 3).toNat, by omega⟩
    have HPL := Aside0.mk (fun W => Go.Proofs.YtlifdpfhepamfaaPl.place_calls room 3 W (by omega) (by omega))
    rw [hrm] at HPL r1
    obtain ⟨n1, hn1⟩ : ∃ n1, nn + rm = n1 := ⟨_, rfl⟩
    obtain ⟨n2, hn2⟩ : ∃ n2, nn - 1 = n2 := ⟨_, rfl⟩
    have hbl : (boxWs 4 (binWs bs)).length = nn := by
      unfold boxWs binWs
      rw [List.length_cons, curB_len, hln]; omega
    obtain ⟨ws, hws⟩ : ∃ ws, boxWs 4 (binWs bs) = ws := ⟨_, rfl⟩
    have HN1 := Aside0.mk (fun W B hB => new_calls (2 + (q : Int) + (rm : Int)) W B hB)
    rw [size_new (show 2 + (q : Int) + (rm : Int) = (n1 : Int) by omega) (show n1 ≤ 32768 by omega)] at HN1
    have HN2 := Aside0.mk (fun W B hB => new_calls (2 + (q : Int) - 1) W B hB)
    rw [size_new (show 2 + (q : Int) - 1 = (n2 : Int) by omega) (show n2 ≤ 32768 by omega)] at HN2
    rw [hws] at hbl
    have hR1 : objR 2 [] n1 ws = (2, true) := by unfold objR; rw [if_pos (by rw [hbl, List.length_nil]; omega)]; rfl
    have hL1 : objL [] n1 ws = ws := by unfold objL; rw [if_pos (by rw [hbl, List.length_nil]; omega)]; rfl
    have hR2 : objR 2 [] n2 ws = (0, false) := by unfold objR; rw [if_neg (by rw [hbl, List.length_nil]; omega)]
    have hL2 : objL [] n2 ws = [] := by unfold objL; rw [if_neg (by rw [hbl, List.length_nil]; omega)]
    have hlies : LiesBox ws 0 4 (binWs bs) := ⟨[], by rw [← hws]; simp⟩
    have hg1 : goodI ws 2 = true := good_box hlies (by omega) (by omega)
    obtain ⟨y, hy⟩ : ∃ y : Int, 2 + 4 * ((nn : Int) + 3) = y := ⟨_, rfl⟩
    have hg2 : goodI ws y = false := by
      have a1 : y % 4 = 2 := by omega
      have a2 : atI y = (nn : Int) + 3 := by unfold atI; rw [if_pos (.inr a1)]; omega
      unfold goodI
      rw [if_neg (by omega), if_neg (by omega), if_pos a1, a2]
      have : extA ws ((nn : Int) + 3) = 0 := by unfold extA; rw [if_neg (by rw [hbl]; omega)]
      rw [this]
      rfl
    have hy0' : y = 2 + 4 * (2 + (q : Int) + 3) := by omega
    have hy0 : 0 ≤ y ∧ y < 18446744073709551616 := by omega
    have hlen' : len ≤ 2000 := by omega
    obtain ⟨-, e2, -, -, -, -, -, -, -, -, -⟩ := nums_ok hq hnn hn1 hn2 hy (by omega) (by omega)
    have HNN := Aside0.mk hn1
    have HLI := Aside0.mk hlies
    have HFA := Aside0.mk (And.intro hR1 (And.intro hL1 (And.intro hR2 (And.intro hL2 (And.intro hg1 hg2)))))
    have HY := Aside0.mk hy0
    have HBL := Aside0.mk hbl
    have HWS := Aside0.mk hws
    have heq : ((strOfNums bs).toList == (strOfNums bs).toList) = true := by simp
    have hqb : q ≤ 300 := by omega
    have HNQ := Aside0.mk (show (nn : Int) = 2 + (q : Int) by omega)
    have HYQ := Aside0.mk hy0'
    clear hq hnn hrm r0 hn1 hn2 hws hR1 hL1 hR2 hL2 hlies hg1 hg2 hy hy0 hy0' hbl hln hr hb8 hlm hlen
    go_enter Try.func7, Try.ntmps7
    go_wp2_with fail
    refine (HPL.out _).mono ?_
    rintro e w1 ⟨rfl, nd1, rfl⟩
    go_wp2_with fail
    refine (HN1.out _ _ (Nat.le_refl _)).mono ?_
    rintro e w2 ⟨h, g, gw, m, rfl, ha, hb, hlo⟩
    have HA := Aside0.mk ha
    have HB2 := Aside0.mk (show Below w.heap.size w w2 from (pw_below_drewN (Below.refl _ _) nd1).trans hb)
    have HF := Aside0.mk ha.foot
    clear ha hb hlo HPL HN1
    go_wp2_with fail
    refine (HN2.out _ w.heap.size HB2.out.size).mono ?_
    rintro e w3 ⟨h', g', gw', m', rfl, ha', hb', hlo'⟩
    have HT3 : Aside0 (Two w w3 h g gw m [] n1 h' g' gw' m' [] n2) := ⟨HA.out.below hb', ha', fun k hk hs => absurd (HF.out k hk).2 (Nat.not_lt.mpr (hlo' k hs)), below_step HB2.out hb'⟩
    obtain ⟨c0, d0⟩ := HT3.out.cells
    clear ha' hb' hlo' HN2 HA HB2 HF
    go_wp2_with fail
    have HC := Aside0.mk (lbytes_calls w3 A c bs (by rw [HLN.out]; exact reads_be HR.out HT3.out.be) (by rw [HLN.out]; omega))
    rw [HLN.out] at HC
    refine HC.out.mono ?_
    rintro e w4 ⟨A', c', rfl, hrd, hcc, hb⟩
    have HT4 := Aside0.mk (HT3.out.below hb)
    have HBC := Aside0.mk (bytes_calls w4 w.heap.size h g gw m (.slice none 0 0) [] n1 [] A' c' bs HT4.out.a (by rw [HLN.out]; omega) (by rw [HLN.out]; exact hrd) (by rw [HLN.out]; exact hcc) H8.out)
    rw [HLN.out, HWS.out, HFA.out.1, HFA.out.2.1] at HBC
    clear hb hrd hcc HC HT3 c0 d0
    go_wp2_with fail
    refine HBC.out.mono ?_
    rintro e w5 ⟨rfl, ha, hm⟩
    have HT5 := Aside0.mk (HT4.out.fst ha hm)
    have HBD := Aside0.mk (bytes_calls w5 w.heap.size h' g' gw' m' (.slice none 0 0) [] n2 [] A c bs HT5.out.b (by rw [HLN.out]; omega) (by rw [HLN.out]; exact reads_be HR.out HT5.out.be) (by rw [HLN.out]; exact HCL.out) H8.out)
    rw [HLN.out, HWS.out, HFA.out.2.2.1, HFA.out.2.2.2.1] at HBD
    clear ha hm HBC HT4
    go_wp2_with fail
    refine HBD.out.mono ?_
    rintro e w6 ⟨rfl, ha, hm⟩
    have HT6 := Aside0.mk (HT5.out.snd ha hm)
    have HG := Aside0.mk (show Calls Try.prog 42 #[.pointer (some ⟨h, 0, none⟩), .int .u64 2] w6 fun e w' => e = .returned (.tuple #[binV (strOfNums bs), .bool true]) ∧ Below w6.heap.size w6 w' from get_bin w6 w.heap.size h g gw m (.slice none 0 0) ws n1 [] 0 bs HT6.out.a H8.out (by rw [HLN.out]; omega) HLI.out)
    clear ha hm HBD HT5
    go_wp2_with fail
    refine HG.out.mono ?_
    rintro e w7 ⟨rfl, hb⟩
    have HT7 := Aside0.mk (HT6.out.below hb)
    clear hb HG HT6
    obtain ⟨gq, hgq⟩ : ∃ gq, w7.heap.size = gq := ⟨_, rfl⟩
    obtain ⟨W8, hW8⟩ : ∃ W8, w7.alloc (.cells #[.int .i64 0, .bool false, .slice none 0 0, .string ⟨#[]⟩, .int .i64 0, .slice none 0 0] 43) = W8 := ⟨_, rfl⟩
    have hn8 : W8.heap[gq]? = some (.cells #[.int .i64 0, .bool false, .slice none 0 0, .string ⟨#[]⟩, .int .i64 0, .slice none 0 0] 43 (0, 0)) := by rw [← hW8, ← hgq]; exact heap_alloc_new _ _
    have hb8 : Below w7.heap.size w7 W8 := by rw [← hW8]; exact below_alloc (Below.refl _ _) _
    obtain ⟨p0, p1, p2, p3, p4, p5⟩ := six_cells hn8
    obtain ⟨z0, z1, z2, z3, z4, z5⟩ := six_live hn8
    have m8 := six_put (a' := .int .i64 6) (b' := .bool false) (c' := .slice none 0 0) (d' := .string (strOfNums bs)) (e' := .int .i64 0) (f' := .slice none 0 0) hn8
    obtain ⟨W9, hW9⟩ : ∃ W9, (((((W8.setCell ⟨gq, 0, none⟩ (.int .i64 6)).setCell ⟨gq, 1, none⟩ (.bool false)).setCell ⟨gq, 2, none⟩ (.slice none 0 0)).setCell ⟨gq, 3, none⟩ (.string (strOfNums bs))).setCell ⟨gq, 4, none⟩ (.int .i64 0)).setCell ⟨gq, 5, none⟩ (.slice none 0 0) = W9 := ⟨_, rfl⟩
    rw [hW9] at m8
    have hb9 : Below w7.heap.size w7 W9 := by rw [← hW9]; exact below_six hb8 (by rw [hgq]; exact Nat.le_refl _)
    have HT9 := Aside0.mk (HT7.out.below hb9)
    obtain ⟨r0, r1, r2, r3, r4, r5⟩ := six_cells m8
    obtain ⟨c0, d0⟩ := HT9.out.cells
    have hcvs := fun nd => conv_str (W9.drewN nd) 33 5 Try.underlying33 Try.underlying5 A c bs (by rw [HLN.out]; exact reads_be HR.out (pw_below_drewN HT9.out.be nd)) 9 Try.underlying9
    rw [HLN.out] at hcvs
    have HU := Aside0.mk (used_calls W9 g' gw' n2 [] HT9.out.b.ar)
    clear hn8 hb8 hb9 m8
    unfold binV
    go_wp2_with fail
    refine HU.out.mono ?_
    rintro e w10 ⟨rfl, nd2, rfl⟩
    have hcvN := hcvs nd2
    have HU2 := Aside0.mk (used_calls (W9.drewN nd2) g gw n1 ws (HT9.out.a.ar.drewN nd2))
    rw [HBL.out] at HU2
    clear HU
    go_wp2_with fail
    refine HU2.out.mono ?_
    rintro e w11 ⟨rfl, nd3, rfl⟩
    have HT11 := Aside0.mk (HT9.out.below (pw_below_drewN (Below.refl _ W9) (nd2 + nd3)))
    have hnq := HNQ.out
    have HG1 := Aside0.mk (good_calls (W9.drewN (nd2 + nd3)) w.heap.size h g gw m (.slice none 0 0) ws n1 [] 2 HT11.out.a (by omega) (by omega))
    rw [HFA.out.2.2.2.2.1] at HG1
    clear HU2 hcvN hcvs
    go_wp2_with fail
    refine HG1.out.mono ?_
    rintro e w12 ⟨rfl, nd4, rfl⟩
    have HT12 := Aside0.mk (HT9.out.below (pw_below_drewN (Below.refl _ W9) (nd2 + nd3 + nd4)))
    have HG2 := Aside0.mk (good_calls _ w.heap.size h g gw m (.slice none 0 0) ws n1 [] y HT12.out.a HY.out.1 HY.out.2)
    rw [HFA.out.2.2.2.2.2, HYQ.out] at HG2
    clear HG1
    go_wp2_with fail
    refine HG2.out.mono ?_
    rintro e w13 ⟨rfl, nd5, rfl⟩
    have HT13 := Aside0.mk (HT9.out.below (pw_below_drewN (Below.refl _ W9) (nd2 + nd3 + nd4 + nd5)))
    clear HG2
    go_wp2_with fail
    refine (Go.Proofs.YtlifdpfhepamfaaHv.awake_calls _).mono ?_
    rintro e w14 ⟨rfl, hb⟩
    have HB14 := Aside0.mk (below_step HT13.out.be hb)
    clear hb
    go_wp2_with fail
    go_ret
    exact ⟨rfl, HB14.out⟩
end Go.Proofs.YtlifdpfhepamfaaHBytes
