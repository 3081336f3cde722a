/- Numbers that are read: num.of, num.Int, term.Small. -/
import Derived.Test.YtlifdpfhepamfaaPHe3
import Derived.Test.YtlifdpfhepamfaaLeaf
namespace Go.Proofs.YtlifdpfhepamfaaHn
open Go.RowKit Go.Proofs.YtlifdpfhepamfaaW.PrintWords Go.Proofs.YtlifdpfhepamfaaW.PrintLast Go.Proofs.YtlifdpfhepamfaaW.PrintMore Go.Proofs.YtlifdpfhepamfaaMem Go.Proofs.YtlifdpfhepamfaaLeaf Go.Proofs.YtlifdpfhepamfaaBits Go.Proofs.Ytlifdpfhepamfaa.PHe Go.Proofs
set_option linter.unusedVariables false
set_option linter.unusedSimpArgs false
/-- What num.of hands back: a number that may be, as it came; nought of others. -/
def ofN (b neg : Bool) (xs : List Int) : Bool × List Int := if b then (neg, xs) else (false, [])
def ofA (b : Bool) (A : Option Addr) : Option Addr := if b then A else none
def ofC (b : Bool) (c : Nat) : Nat := if b then c else 0
theorem ofN_C {b neg : Bool} {xs : List Int} {w : World} {A : Option Addr} {c : Nat} (hr : Kd.C (Kd.int .u32) w A xs.length xs) (hc : xs.length ≤ c) : Kd.C (Kd.int .u32) w (ofA b A) (ofN b neg xs).2.length (ofN b neg xs).2 ∧ (ofN b neg xs).2.length ≤ ofC b c := by
  cases b with
  | true => exact ⟨hr, hc⟩
  | false => exact ⟨Kd.C_nil _ _, Nat.le_refl _⟩
def NumRet (b neg : Bool) (A : Option Addr) (c : Nat) (xs : List Int) (w : World) (e : Ending) (w' : World) : Prop :=
  e = .returned (.agg #[.bool (ofN b neg xs).1, .slice (ofA b A) (ofN b neg xs).2.length (ofC b c)]) ∧ Below w.heap.size w w'
set_option maxHeartbeats 4000000 in
set_option maxRecDepth 100000 in
theorem of_calls (w : World) (neg : Bool) (A : Option Addr) (c : Nat) (xs : List Int) (b : Bool) (hr : Kd.C (Kd.int .u32) w A xs.length xs) (hc : xs.length ≤ c) (h : num_Check.f neg xs = some b) :
    Calls Try.prog 124 #[.agg #[.bool neg, .slice A xs.length c]] w (NumRet b neg A c xs w) := by
  have hu := Try.underlying41
  obtain ⟨n, hn⟩ : ∃ n, xs.length = n := ⟨_, rfl⟩
  obtain ⟨g, hg⟩ : ∃ g, w.heap.size = g := ⟨_, rfl⟩
  obtain ⟨g1, hg1⟩ : ∃ g1, g + 1 = g1 := ⟨_, rfl⟩
  obtain ⟨W, hW⟩ : ∃ W, (w.alloc (.cells #[.bool neg, .slice A n c] 41)).alloc (.cells #[.bool false, .slice none 0 0] 41) = W := ⟨_, rfl⟩
  have h0 : W.heap[g]? = some (.cells #[.bool neg, .slice A n c] 41 (0, 0)) := by rw [← hW, ← hg]; exact blk_new1 _ _ _
  have h1 : W.heap[g1]? = some (.cells #[.bool false, .slice none 0 0] 41 (0, 0)) := by rw [← hW, ← hg1, ← hg]; exact blk_new2 _ _ _
  have hb : Below w.heap.size w W := by rw [← hW]; exact below_alloc (below_alloc (Below.refl _ _) _) _
  have HC := Aside0.mk (num_Check.calls neg A c xs b W (Kd.C_below hr hb) hc h)
  have HR := Aside0.mk hr
  have HCC := Aside0.mk hc
  have HG := Aside0.mk (show w.heap.size ≤ g1 by omega)
  obtain ⟨c0, c1, f0, f1⟩ := two_cells h0
  have H1 := Aside0.mk h1
  have HB := Aside0.mk hb
  have HN := Aside0.mk hn
  rw [hn] at HC HR HCC ⊢
  clear hr hc h h0 h1 hb hn
  go_enter Try.func124, Try.ntmps124
  go_wp2_with fail
  refine HC.out.mono ?_
  rintro e w1 ⟨rfl, hb⟩
  have H1 := Aside0.mk ((hb.block _ (blk_lt H1.out)).trans H1.out)
  have d0 := pw_cell_below hb c0
  have d1 := pw_cell_below hb c1
  obtain ⟨q0, q1, z0, z1⟩ := two_cells H1.out
  have HB := Aside0.mk (below_step HB.out hb)
  clear hb c0 c1 f0 f1 hW HC
  cases b with
  | false =>
    go_wp2_with fail
    refine bodyPost_ret (results_cell_row rfl _ _ g1 41 #[.bool false, .slice none 0 0] (0, 0) _ rfl (two_put H1.out) Try.underlying41 rfl (by kernel_rfl)) rfl ?_
    exact ⟨rfl, below_set (below_set HB.out HG.out) HG.out⟩
  | true =>
    go_wp2_with fail
    refine bodyPost_ret (results_cell_row rfl _ _ g1 41 #[.bool neg, .slice A n c] (0, 0) _ rfl (two_put H1.out) Try.underlying41 rfl (by kernel_rfl)) rfl ?_
    exact ⟨by rw [show (ofN true neg xs) = (neg, xs) from rfl, HN.out]; rfl, below_set (below_set HB.out HG.out) HG.out⟩
/-- The number of two limbs. -/
def valU (xs : List Int) : Nat → Int
  | 0 => 0
  | 1 => xs.getD 0 0
  | _ + 2 => xs.getD 0 0 + 4294967296 * xs.getD 1 0
def U32 (xs : List Int) : Prop := ∀ i, 0 ≤ xs.getD i 0 ∧ xs.getD i 0 < 4294967296
theorem valU_bd {xs : List Int} (h : U32 xs) (i : Nat) : 0 ≤ valU xs i ∧ valU xs i < 18446744073709551616 := by
  have a0 := h 0
  have a1 := h 1
  match i with
  | 0 => simp [valU]
  | 1 => simp only [valU]; omega
  | i + 2 => simp only [valU]; omega
/-- What num.Int tells of what num.of hands back. -/
def intO (neg : Bool) (ys : List Int) : Int × Bool :=
  if ys.length > 2 then (0, false) else if neg = true then (if valU ys ys.length ≤ 9223372036854775808 then (- valU ys ys.length, true) else (0, false)) else (if valU ys ys.length < 9223372036854775808 then (valU ys ys.length, true) else (0, false))
def intN (b neg : Bool) (xs : List Int) : Int × Bool := intO (ofN b neg xs).1 (ofN b neg xs).2
theorem or_comm64 (x y : Int) (hx : 0 ≤ x ∧ x < 18446744073709551616) (hy : 0 ≤ y ∧ y < 18446744073709551616) : Go.bits .or .u64 x y = Go.bits .or .u64 y x := by
  obtain ⟨a, rfl⟩ := Int.eq_ofNat_of_zero_le hx.1
  obtain ⟨b, rfl⟩ := Int.eq_ofNat_of_zero_le hy.1
  have hk : ∀ n : Int, 0 ≤ n → n < 2 ^ 64 → IntKind.u64.wrap n = n := fun n h0 h1 => by rw [wrap_u64]; omega
  rw [(bits_nat .u64 64 (by decide) hk a b (by omega) (by omega)).2, (bits_nat .u64 64 (by decide) hk b a (by omega) (by omega)).2, Nat.or_comm]
theorem or_shl (x y : Int) (hx : 0 ≤ x ∧ x < 4294967296) (hy : 0 ≤ y ∧ y < 4294967296) : Go.bits .or .u64 x (y * 4294967296) = x + 4294967296 * y := by
  rw [or_comm64 _ _ (by omega) (by omega), or_join 32 (y * 4294967296) x (by omega) (by omega) (by omega) (by omega) (by omega) (by omega)]
  omega
theorem or_zero (x : Int) (hx : 0 ≤ x ∧ x < 4294967296) : Go.bits .or .u64 0 x = x := by
  rw [or_join 32 0 x (by omega) (by omega) (by omega) (by omega) (by omega) (by omega)]
  omega
set_option maxHeartbeats 4000000 in
set_option maxRecDepth 100000 in
theorem int_calls (w : World) (neg : Bool) (A : Option Addr) (c : Nat) (xs : List Int) (b : Bool) (hr : Kd.C (Kd.int .u32) w A xs.length xs) (hc : xs.length ≤ c) (h : num_Check.f neg xs = some b) (hu32 : U32 xs) :
    Calls Try.prog 71 #[.agg #[.bool neg, .slice A xs.length c]] w fun e w' => e = .returned (.tuple #[.int .i64 (intN b neg xs).1, .bool (intN b neg xs).2]) ∧ Below w.heap.size w w' := by
  have hu := Try.underlying41
  obtain ⟨n, hn⟩ : ∃ n, xs.length = n := ⟨_, rfl⟩
  obtain ⟨g, hg⟩ : ∃ g, w.heap.size = g := ⟨_, rfl⟩
  obtain ⟨W, hW⟩ : ∃ W, w.alloc (.cells #[.bool neg, .slice A n c] 41) = W := ⟨_, rfl⟩
  have h0 : W.heap[g]? = some (.cells #[.bool neg, .slice A n c] 41 (0, 0)) := by rw [← hW, ← hg]; exact heap_alloc_new _ _
  have hb : Below w.heap.size w W := by rw [← hW]; exact below_alloc (Below.refl _ _) _
  have HC := Aside0.mk (of_calls W neg A c xs b (Kd.C_below hr hb) hc h)
  have HG := Aside0.mk (show w.heap.size ≤ g by omega)
  obtain ⟨c0, c1, f0, f1⟩ := two_cells h0
  have H0 := Aside0.mk h0
  have HB := Aside0.mk hb
  have HU : Aside0 (U32 (ofN b neg xs).2) := ⟨by
    unfold ofN
    cases b with
    | true => exact hu32
    | false => intro i; simp⟩
  have HYC := Aside0.mk (fun (W' : World) (hb : Below w.heap.size w W') => ofN_C (b := b) (neg := neg) (Kd.C_below hr hb) hc)
  have e1 : intN b neg xs = intO (ofN b neg xs).1 (ofN b neg xs).2 := rfl
  rw [e1]
  unfold NumRet at HC
  generalize ofN b neg xs = nb at HC HU HYC ⊢
  obtain ⟨neg1, ys⟩ := nb
  simp only at HC HU HYC ⊢
  obtain ⟨A1, hA1⟩ : ∃ A1, ofA b A = A1 := ⟨_, rfl⟩
  obtain ⟨c1_, hc1⟩ : ∃ c1, ofC b c = c1 := ⟨_, rfl⟩
  obtain ⟨rv, rb, hrv⟩ : ∃ rv rb, intO neg1 ys = (rv, rb) := ⟨_, _, rfl⟩
  rw [hA1, hc1] at HC HYC
  rw [hrv]
  have HRV := Aside0.mk hrv
  clear hA1 hc1 hrv
  rw [hn] at HC ⊢
  clear hr hc h h0 hb hn hu32 e1
  go_enter Try.func71, Try.ntmps71
  go_wp2_with fail
  refine HC.out.mono ?_
  rintro e w1 ⟨rfl, hb⟩
  have H1 := (hb.block _ (blk_lt H0.out)).trans H0.out
  obtain ⟨d0, d1, z0, z1⟩ := two_cells H1
  have HB1 := Aside0.mk (below_set (below_set (below_step HB.out hb) HG.out (j := 0) (v := .bool neg1)) HG.out (j := 1) (v := .slice A1 ys.length c1_))
  have H2 := two_put (a' := .bool neg1) (b' := .slice A1 ys.length c1_) H1
  obtain ⟨W2, hW2⟩ : ∃ W2, (w1.setCell ⟨g, 0, none⟩ (.bool neg1)).setCell ⟨g, 1, none⟩ (.slice A1 ys.length c1_) = W2 := ⟨_, rfl⟩
  rw [hW2] at H2 HB1
  have HR2 := Aside0.mk (HYC.out W2 HB1.out)
  obtain ⟨q0, q1, y0, y1⟩ := two_cells H2
  clear hb hW HC
  by_cases hlen : ys.length > 2
  · have hc := HRV.out
    unfold intO at hc
    rw [if_pos hlen] at hc
    injection hc with h1 h2
    subst h1
    subst h2
    have hl1 : (ys.length : Int) > 2 := by omega
    go_wp2_with fail
    go_ret2
    exact ⟨rfl, HB1.out⟩
  · have hl1 : ¬ (ys.length : Int) > 2 := by omega
    have HL := Aside0.mk hlen
    clear hlen
    go_wp2_with fail
    go_loopg [4, 16] 3 (fun q v4 v16 wr => ∃ i : Nat, v16 = .int .i64 i ∧ v4 = .int .u64 (valU ys i) ∧ i ≤ ys.length ∧ q = 3 - i ∧ Aside0 (Below W2.heap.size W2 wr))
    case atStart => exact ⟨0, rfl, rfl, by omega, rfl, ⟨by first | exact Below.refl _ _ | (rw [hW2]; exact Below.refl _ _)⟩⟩
    case round =>
      obtain ⟨i, rfl, rfl, hi, rfl, HBR⟩ := hrel
      have hl2 := HL.out
      by_cases hlt : i < ys.length
      · have b1 : (i : Int) < (ys.length : Int) := by omega
        obtain ⟨ad, ea, hcell⟩ := Kd.at_int (HR2.out.1) (i : Int) (by omega) (by omega)
        subst ea
        rw [Int.toNat_natCast, show rd ys (i : Int) = ys.getD i 0 from by unfold rd; rw [Int.toNat_natCast]] at hcell
        have hcw := pw_cell_below HBR.out hcell
        have hu := HU.out i
        have hu0 := HU.out 0
        have hi2 : i = 0 ∨ i = 1 := by omega
        obtain ⟨x, hx⟩ : ∃ x, ys.getD i 0 = x := ⟨_, rfl⟩
        have HXE := Aside0.mk hx
        rw [hx] at hcw hu
        clear hcell hx
        rcases hi2 with rfl | rfl
        · have ho := or_zero x hu
          have hv0 : valU ys 0 = 0 := rfl
          rw [hv0]
          have hcw0 : wr.cell? ad = some (.int .u32 x) := by rw [← hcw]; simp [Addr.add]
          clear hcw
          go_wp2_with fail
          go_roundg (3 - 1)
          case measure => omega
          case rel => exact ⟨1, by go_num, by rw [show valU ys 1 = ys.getD 0 0 from rfl, HXE.out], by omega, rfl, HBR⟩
        · have ho := or_shl (ys.getD 0 0) x hu0 hu
          obtain ⟨z, hz⟩ : ∃ z, ys.getD 0 0 = z := ⟨_, rfl⟩
          have hv1 : valU ys 1 = z := hz
          have HZ := Aside0.mk hz
          rw [hz] at ho
          clear hz hu0
          have hcw1 : wr.cell? ⟨ad.block, ad.off + 1, none⟩ = some (.int .u32 x) := hcw
          rw [hv1]
          go_wp2_with fail
          go_roundg (3 - 2)
          case measure => omega
          case rel => exact ⟨2, by go_num, by rw [show valU ys 2 = ys.getD 0 0 + 4294967296 * ys.getD 1 0 from rfl, HXE.out, HZ.out], by omega, rfl, HBR⟩
      · obtain rfl : i = ys.length := by omega
        have b1 : ¬ (ys.length : Int) < (ys.length : Int) := by omega
        have hvb := valU_bd HU.out ys.length
        have hc := HRV.out
        unfold intO at hc
        rw [if_neg hl2] at hc
        obtain ⟨u, hu'⟩ : ∃ u, valU ys ys.length = u := ⟨_, rfl⟩
        rw [hu'] at hc hvb ⊢
        have r0 := pw_cell_below HBR.out q0
        have HBF := Aside0.mk (below_step HB1.out HBR.out)
        clear hu'
        cases neg1 with
        | true =>
          rw [if_pos rfl] at hc
          by_cases hle : u ≤ 9223372036854775808
          · rw [if_pos hle] at hc
            injection hc with h1 h2
            subst h1
            subst h2
            go_wp2_with fail
            go_ret2
            refine ⟨?_, by first | exact HBF.out | (rw [← hg]; exact HBF.out)⟩
            exact congrArg (fun q => Ending.returned (.tuple #[.int .i64 q, .bool true])) (by rw [wrap_u64]; unfold wrap64; omega)
          · rw [if_neg hle] at hc
            injection hc with h1 h2
            subst h1
            subst h2
            go_wp2_with fail
            go_ret2
            exact ⟨rfl, by first | exact HBF.out | (rw [← hg]; exact HBF.out)⟩
        | false =>
          rw [if_neg (by decide)] at hc
          by_cases hle : u < 9223372036854775808
          · rw [if_pos hle] at hc
            injection hc with h1 h2
            subst h1
            subst h2
            go_wp2_with fail
            go_ret2
            exact ⟨rfl, by first | exact HBF.out | (rw [← hg]; exact HBF.out)⟩
          · rw [if_neg hle] at hc
            injection hc with h1 h2
            subst h1
            subst h2
            go_wp2_with fail
            go_ret2
            exact ⟨rfl, by first | exact HBF.out | (rw [← hg]; exact HBF.out)⟩
/-- Is a number small? -/
def smallN (b neg : Bool) (xs : List Int) : Bool := (intN b neg xs).2 && (decide (-576460752303423488 ≤ (intN b neg xs).1) && decide ((intN b neg xs).1 < 576460752303423488))
set_option maxHeartbeats 4000000 in
set_option maxRecDepth 100000 in
theorem small_calls (w : World) (neg : Bool) (A : Option Addr) (c : Nat) (xs : List Int) (b : Bool) (hr : Kd.C (Kd.int .u32) w A xs.length xs) (hc : xs.length ≤ c) (h : num_Check.f neg xs = some b) (hu32 : U32 xs) :
    Calls Try.prog 72 #[.agg #[.bool neg, .slice A xs.length c]] w fun e w' => e = .returned (.bool (smallN b neg xs)) ∧ Below w.heap.size w w' := by
  have hu := Try.underlying41
  obtain ⟨n, hn⟩ : ∃ n, xs.length = n := ⟨_, rfl⟩
  obtain ⟨g, hg⟩ : ∃ g, w.heap.size = g := ⟨_, rfl⟩
  obtain ⟨W, hW⟩ : ∃ W, w.alloc (.cells #[.bool neg, .slice A n c] 41) = W := ⟨_, rfl⟩
  have h0 : W.heap[g]? = some (.cells #[.bool neg, .slice A n c] 41 (0, 0)) := by rw [← hW, ← hg]; exact heap_alloc_new _ _
  have hb : Below w.heap.size w W := by rw [← hW]; exact below_alloc (Below.refl _ _) _
  have HC := Aside0.mk (int_calls W neg A c xs b (Kd.C_below hr hb) hc h hu32)
  obtain ⟨c0, c1, f0, f1⟩ := two_cells h0
  have HB := Aside0.mk hb
  have e1 : smallN b neg xs = ((intN b neg xs).2 && (decide (-576460752303423488 ≤ (intN b neg xs).1) && decide ((intN b neg xs).1 < 576460752303423488))) := rfl
  rw [e1]
  generalize intN b neg xs = p at HC ⊢
  obtain ⟨v, ok⟩ := p
  simp only at HC ⊢
  rw [hn] at HC ⊢
  clear hr hc h h0 hb hn hu32 e1
  go_enter Try.func72, Try.ntmps72
  go_wp2_with fail
  refine HC.out.mono ?_
  rintro e w1 ⟨rfl, hb⟩
  have HB1 := Aside0.mk (below_step HB.out hb)
  clear hb HC c0 c1 f0 f1 hW
  cases ok with
  | false =>
    go_wp2_with fail
    go_ret
    exact ⟨rfl, by first | exact HB1.out | (rw [← hg]; exact HB1.out)⟩
  | true =>
    by_cases h1 : -576460752303423488 ≤ v
    · by_cases h2 : v < 576460752303423488
      all_goals
        go_wp2_with fail
        go_ret
        exact ⟨by first | rfl | simp [h1, h2], by first | exact HB1.out | (rw [← hg]; exact HB1.out)⟩
    · go_wp2_with fail
      go_ret
      exact ⟨by first | rfl | (simp [h1]; done) | (simp [h1]; omega), by first | exact HB1.out | (rw [← hg]; exact HB1.out)⟩
end Go.Proofs.YtlifdpfhepamfaaHn
