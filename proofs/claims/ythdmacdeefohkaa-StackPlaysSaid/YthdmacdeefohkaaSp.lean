/- StackPlays: any calls, as the document's stack has them. The walk. -/
import Derived.Test.YthdmacdeefohkaaTwo
import Derived.Test.YthdmacdeefohkaaPlace
import Derived.Test.YthdmacdeefohkaaSame
import Derived.Deep.RegionHeld3
import Derived.Deep.DeepCutAuto
namespace Go.Proofs.YthdmacdeefohkaaSp
open Go.RowKit Go.Proofs.YthdmacdeefohkaaW.PrintWords Go.Proofs.YthdmacdeefohkaaW.PrintLast Go.Proofs.YthdmacdeefohkaaW.PrintMore Go.Proofs.YthdmacdeefohkaaMem Go.Proofs.YthdmacdeefohkaaRow Go.Proofs.YthdmacdeefohkaaRowK Go.Proofs.YthdmacdeefohkaaBits Go.Proofs.YthdmacdeefohkaaTwo Go.Proofs
open Go.Proofs.YthdmacdeefohkaaStk (W64)
open Go.Proofs.YthdmacdeefohkaaStkT (backL slotsL slotL setYL setL sumL)
open Go.Proofs.YthdmacdeefohkaaStkB (flatL flatL_length loadL loadL_length)
open Go.Proofs.YthdmacdeefohkaaSRoots (OwnPost)
open Go.Proofs.YthdmacdeefohkaaPush (pushN)
open Go.Proofs.YthdmacdeefohkaaGm (trimL)
open Go.Proofs.YthdmacdeefohkaaPl (place_calls)
open Go.Proofs.YthdmacdeefohkaaSame (same_calls)
attribute [local go_sem] max2_int min2_int max_two min_two max_three min_three max_four min_four
set_option linter.unusedVariables false
set_option linter.unusedSimpArgs false
theorem _root_.Go.Calls.be {P : Program} {n : Nat} {args : Array Value} {w : World} {E : Ending} (h : Calls P n args w fun e w' => e = E ∧ ∃ nd, w' = w.drewN nd) : Calls P n args w fun e w' => e = E ∧ Below w.heap.size w w' := h.mono (by rintro e w' ⟨rfl, nd, rfl⟩; exact ⟨rfl, pw_below_drewN (Below.refl _ _) nd⟩)
def T29 : Bool × List (List Nat × List Nat) := (true, [([], []), ([0], [0]), ([1], [1]), ([2], [2]), ([2], [2]), ([4, 2], [2, 4]), ([3, 5, 2, 2], [2, 3, 5]), ([2], [2]), ([2], [2]), ([8, 2], [2, 8]), ([7, 9, 6, 2], [2, 7, 9]), ([6, 10, 2], [2, 6, 10]), ([2, 11], [2, 11]), ([12, 10], [12]), ([13], [13]), ([14, 13, 13], [13, 14]), ([13], [13]), ([16, 15, 13], [13, 16]), ([15, 17, 13], [13, 15, 17]), ([13, 18], [13, 18]), ([19, 17], [19]), ([20], [20]), ([21, 20, 20], [20, 21]), ([20], [20]), ([23, 22, 20], [20, 23]), ([22, 24, 20], [20, 22, 24]), ([20, 25], [20, 25]), ([26, 24], [26]), ([27], [27]), ([28, 27, 27], [27, 28]), ([27], [27]), ([30, 27], [27, 30]), ([31, 27], [27, 31]), ([32, 27], [27, 32]), ([33, 27], [27, 33]), ([29, 34, 27], [27, 29, 34]), ([27, 35], [27, 35]), ([36, 29], [36]), ([37], [37]), ([38, 37, 37], [37, 38]), ([37], [37]), ([40, 39, 37], [37, 40]), ([39, 41, 37], [37, 39, 41]), ([37, 42], [37, 42]), ([43, 41], [43]), ([44], [44]), ([45, 44, 44], [44, 45]), ([44], [44]), ([47, 46, 44], [44, 47]), ([46, 48, 48, 44], [44, 46, 48]), ([49, 44], [44, 49]), ([44, 50], [44, 50])])
def B29 : List Nat := [0, 1, 3, 7, 7, 23, 63, 7, 7, 263, 1023, 2047, 4095, 8191, 16383, 32767, 16383, 131071, 262143, 524287, 1048575, 2097151, 4194303, 2097151, 16777215, 33554431, 67108863, 134217727, 268435455, 536870911, 268435455, 1342177279, 3489660927, 7784628223, 16374562815, 34359738367, 68719476735, 137438953471, 274877906943, 549755813887, 274877906943, 2199023255551, 4398046511103, 8796093022207, 17592186044415, 35184372088831, 70368744177663, 35184372088831, 281474976710655, 562949953421311, 1125899906842623, 2251799813685247]
theorem tab29 : rtab .any (opsOf Try.f11 29) = T29 := by kernel_rfl
theorem bits29 : waitsOk T29.2 B29 = true := by kernel_rfl
/-- A call that came in. -/
structure OpV where
  kd : Int
  m : Int
  b : Int
  x : Int
  A : Option Addr
  l : Nat
  c : Nat
  xs : List Int
/-- A slice of calls that came in. -/
def OpRow (w : World) (a : Option Addr) (n : Nat) (f : Nat → OpV) : Prop :=
  n ≤ 9223372036854775807 ∧ (0 < n → ∃ ad, a = some ad ∧ ∀ j, j < n → (w.cell? (ad.add (j * 5)) = some (.int .i64 (f j).kd) ∧ w.cell? ⟨(ad.add (j * 5)).block, (ad.add (j * 5)).off + 1, none⟩ = some (.int .i64 (f j).m) ∧ w.cell? ⟨(ad.add (j * 5)).block, (ad.add (j * 5)).off + 2, none⟩ = some (.int .i64 (f j).b) ∧ w.cell? ⟨(ad.add (j * 5)).block, (ad.add (j * 5)).off + 3, none⟩ = some (.int .u64 (f j).x) ∧ w.cell? ⟨(ad.add (j * 5)).block, (ad.add (j * 5)).off + 4, none⟩ = some (.slice (f j).A (f j).l (f j).c)) ∧ 0 ≤ (f j).x ∧ (f j).x < 18446744073709551616 ∧ ReadsInt w .u64 (f j).A (f j).l (f j).xs ∧ W64 (f j).xs ∧ ∀ ad', (f j).A = some ad' → 0 < (f j).l → ad'.block < w.heap.size)
theorem ldL_length (L : FL) (m : Nat) (xs : List Int) : (ldL L m xs).length = L.length := by
  unfold ldL
  split
  · exact loadL_length L xs
  · rfl
theorem trimL_length (L : FL) (n : Int) : (trimL L n).length = L.length := by
  rcases List.eq_nil_or_concat L with rfl | ⟨L, f, rfl⟩
  · rfl
  · simp [trimL]
theorem uD_length (L : FL) : (uD L).length ≤ L.length := by
  unfold uD
  split
  · exact Nat.le_refl _
  · rw [List.length_take]; omega
theorem own_row {w : World} {base n : Nat} {v : Value} {xs : List Int} (h : w.ownsRow base 29 1 v n (nums .u64 xs)) : ∃ A c, v = .slice A n c ∧ n ≤ c ∧ ReadsInt w .u64 A n xs ∧ ∀ ad, A = some ad → base ≤ ad.block := Row.reads (Row.of_own h)
theorem new_two {w w1 w2 : World} (h : Go.Proofs.YthdmacdeefohkaaStk.St w.heap.size w1 w.heap.size (.slice none 0 0) []) (hs : w.heap.size < w1.heap.size) (k : Below w1.heap.size w1 w2) (hq : w2.heap[w1.heap.size]? = some (.cells #[.slice none 0 0] 84 (0, 0))) : Two w.heap.size w2 w.heap.size w1.heap.size [] [] := by
  refine ⟨_, [], .slice none 0 0, [], h.below k, ⟨hq, by omega, ⟨rfl, .inl ⟨rfl, rfl⟩⟩, fun f hf => (by simp at hf), by simp [Go.Proofs.YthdmacdeefohkaaGs.gbs], by simp, Nat.le_trans (Nat.le_of_lt hs) k.size⟩, rfl, rfl, fun i hi hg => ?_⟩
  rcases hi with rfl | hi | hi
  · rcases hg with hg | hg | hg
    · omega
    · simp [Value.ownBlock] at hg
    · simp [Go.Proofs.YthdmacdeefohkaaGs.gbs] at hg
  · simp [Value.ownBlock] at hi
  · simp at hi
set_option maxHeartbeats 16000000 in
set_option maxRecDepth 100000 in
theorem law_calls (a : Option Addr) (len cap : Nat) (f : Nat → OpV) (w : World) (hr : OpRow w a len f) :
    Calls Try.prog 11 #[.slice a len cap] w fun e w' => e = .returned (.bool true) ∧ Below w.heap.size w w' := by
  have HR := Aside0.mk hr
  clear hr
  go_enter Try.func11, Try.ntmps11
  go_wp2_with fail
  refine (Go.Proofs.YthdmacdeefohkaaStk.new_calls _ _ (Nat.le_refl _)).mono ?_
  rintro e w1 ⟨rfl, hst, hb⟩
  have hs1 := blk_lt hst.1
  have HB1 := Aside0.mk hb
  have HS1 := Aside0.mk hst
  clear hb hst
  go_wp2_with fail
  have hnew := below_alloc (Below.refl w1.heap.size w1) (.cells #[.slice none 0 0] 84)
  have HT := Aside0.mk (new_two HS1.out hs1 hnew (heap_alloc_new w1 _))
  have HB := Aside0.mk (below_then HB1.out (Nat.le_of_lt hs1) hnew)
  clear hnew HB1 HS1 hs1
  generalize w1.alloc (.cells #[.slice none 0 0] 84) = w2 at HT HB ⊢
  generalize hs : w.heap.size = s at HT ⊢
  have HWS := Aside0.mk hs
  clear hs
  generalize w1.heap.size = g at HT ⊢
  have HT2 := Aside0.mk (show Two w.heap.size w2 s g [] [] by rw [HWS.out]; exact HT.out)
  clear HT HWS
  go_loopg [5] 81 (fun k v5 wr => ∃ (i : Nat) (L : FL), v5 = .int .i64 i ∧ i ≤ 80 ∧ i ≤ len ∧ k = 81 - i ∧ Aside0 (L.length ≤ i) ∧ Aside0 (Two w.heap.size wr s g L L) ∧ Aside0 (Below w.heap.size w wr))
  case atStart => exact ⟨0, [], rfl, by omega, by omega, rfl, ⟨by simp⟩, HT2, HB⟩
  case round =>
    clear HT2 HB
    obtain ⟨i, L, rfl, hi, hil, rfl, HL, HT, HB⟩ := hrel
    by_cases hlt : i < len ∧ i < 80
    · obtain ⟨hl1, hl2⟩ := hlt
      obtain ⟨ad, ea, hc⟩ := HR.out.2 (by omega)
      subst ea
      obtain ⟨⟨h1, h2, h3, h4, h5⟩, hx0, hx1, hrd, hw64, hblk⟩ := hc i hl1
      clear hc
      have k1 := (HB.out.cell (World.block_lt_of_cell? w _ h1)).trans h1
      have k2 := (HB.out.cell (World.block_lt_of_cell? w _ h2)).trans h2
      have k3 := (HB.out.cell (World.block_lt_of_cell? w _ h3)).trans h3
      have k4 := (HB.out.cell (World.block_lt_of_cell? w _ h4)).trans h4
      have k5 := (HB.out.cell (World.block_lt_of_cell? w _ h5)).trans h5
      clear h1 h2 h3 h4 h5
      have HX := Aside0.mk (And.intro hx0 hx1)
      have HRD := Aside0.mk hrd
      have HW64 := Aside0.mk hw64
      have HBK := Aside0.mk hblk
      clear hx0 hx1 hrd hw64 hblk
      generalize (f i).kd = kd at k1
      generalize (f i).m = m at k2
      generalize (f i).b = b at k3
      generalize (f i).x = x at k4 HX
      generalize (f i).A = A at k5 HRD HBK
      generalize (f i).l = l at k5 HRD HBK
      generalize (f i).c = c at k5
      generalize (f i).xs = xs at HRD HW64
      have b1 : (i : Int) < (len : Int) := by omega
      have b2 : (i : Int) < 80 := by omega
      have hbo := below_alloc (Below.refl wr.heap.size wr) (.cells #[.int .i64 kd, .int .i64 m, .int .i64 b, .int .u64 x, .slice A l c] 86)
      have HTQ := Aside0.mk (HT.out.with_ hbo (heap_alloc_new wr _))
      have HB0 := Aside0.mk (below_then HB.out HB.out.size hbo)
      clear hbo HT HB
      by_cases hl : l ≤ 100
      · have b3 : ¬ (l : Int) > 100 := by omega
        have b4 : ¬ (100 : Int) < (l : Int) := by omega
        go_upto_region 12 with (fail)
        -- cases
        have HPL := Aside0.mk (fun W => place_calls kd 9 W (by omega) (by omega))
        have hp0 := Int.emod_nonneg kd (show (9 : Int) ≠ 0 by omega)
        have hp1 := Int.emod_lt_of_pos kd (show (0 : Int) < 9 by omega)
        generalize kd % 9 = p at HPL hp0 hp1
        go_wp2_with fail
        refine (HPL.out _).mono ?_
        rintro e w4 ⟨rfl, n4, rfl⟩
        dsimp only
        have HT4 := Aside0.mk (HTQ.out.drewN n4)
        have HB4 := Aside0.mk (pw_below_drewN HB0.out n4)
        clear HTQ HB0 HPL k1 k2 k3 k4 k5 b4
        generalize (wr.alloc (.cells #[.int .i64 kd, .int .i64 m, .int .i64 b, .int .u64 x, .slice A l c] 86)).drewN n4 = w4 at HT4 HB4 ⊢
        generalize wr.heap.size = q at HT4 ⊢
        go_step
        go_step
        go_step
        go_step
        have hlen := HRD.out.1
        subst hlen
        go_cut [7] (fun v7 wc => v7 = .bool true ∧ ∃ L2 : FL, Aside0 (L2.length ≤ i + 1) ∧ Aside0 (TwoQ w.heap.size q (.cells #[.int .i64 kd, .int .i64 m, .int .i64 b, .int .u64 x, .slice A xs.length c] 86 (0, 0)) wc s g L2 L2) ∧ Aside0 (Below w.heap.size w wc))
        case first =>
          have hll : L.length < 4000 := by have := HL.out; omega
          have HLL := Aside0.mk hll
          clear hll
          obtain ⟨c0, c1, c2, c3, c4⟩ := HT4.out.cells
          have hp : p = 0 ∨ p = 1 ∨ p = 2 ∨ p = 3 ∨ p = 4 ∨ p = 5 ∨ p = 6 ∨ p = 7 ∨ p = 8 := by omega
          clear hp0 hp1
          rcases hp with rfl | rfl | rfl | rfl | rfl | rfl | rfl | rfl | rfl
          · -- 0
            go_wp2_with fail
            go_region_held3 (fun w' => w'.cell? ⟨q, 1, none⟩ = some (.int .i64 m) ∧ w'.cell? ⟨q, 2, none⟩ = some (.int .i64 b))
              (first | go_keep | assumption | exact ⟨d1, d2⟩ | exact ⟨f1, f2⟩)
              ((first
                | (go_at_call 16; refine (p_push HT4.out.drew HLL.out m b).mono ?_; rintro e w5 ⟨rfl, ht, hb⟩; have HT5 := Aside0.mk ht; have HB5 := Aside0.mk ((below_drew HB4.out).trans hb); obtain ⟨_, d1, d2, _, _⟩ := ht.cells; clear ht hb)
                | (go_at_call 54; refine (d_push HT5.out HLL.out m b).mono ?_; rintro e w6 ⟨rfl, ht, hb⟩; have HT6 := Aside0.mk ht; have HB6 := Aside0.mk (HB5.out.trans hb); obtain ⟨_, f1, f2, _, _⟩ := ht.cells; clear ht hb)))
            go_wp2_with fail
            go_meet
            exact ⟨rfl, _, ⟨by have := HL.out; simp; omega⟩, HT6, HB6⟩
          · -- 1
            go_wp2_with fail
            go_region_held3 (fun w' => w'.cell? ⟨q, 1, none⟩ = some (.int .i64 m) ∧ w'.cell? ⟨q, 2, none⟩ = some (.int .i64 b))
              (first | go_keep | assumption | exact ⟨d1, d2⟩ | exact ⟨f1, f2⟩)
              ((first
                | (go_at_call 16; refine (p_push HT4.out.drew HLL.out m b).mono ?_; rintro e w5 ⟨rfl, ht, hb⟩; have HT5 := Aside0.mk ht; have HB5 := Aside0.mk ((below_drew HB4.out).trans hb); obtain ⟨_, d1, d2, _, _⟩ := ht.cells; clear ht hb)
                | (go_at_call 54; refine (d_push HT5.out HLL.out m b).mono ?_; rintro e w6 ⟨rfl, ht, hb⟩; have HT6 := Aside0.mk ht; have HB6 := Aside0.mk (HB5.out.trans hb); obtain ⟨_, f1, f2, _, _⟩ := ht.cells; clear ht hb)))
            go_wp2_with fail
            go_meet
            exact ⟨rfl, _, ⟨by have := HL.out; simp; omega⟩, HT6, HB6⟩
          · -- 2
            go_wp2_with fail
            refine (p_pop HT4.out).mono ?_
            rintro e w5 ⟨rfl, ht, hb⟩
            have HT5 := Aside0.mk ht
            have HB5 := Aside0.mk (HB4.out.trans hb)
            obtain ⟨d0, d1, d2, d3, d4⟩ := ht.cells
            have HD := Aside0.mk (d_pop HT5.out)
            clear ht hb c0 c1 c2 c3 c4
            generalize backL L = y1 at HD ⊢
            go_wp2_with fail
            refine HD.out.mono ?_
            rintro e w6 ⟨rfl, ht, hb⟩
            have HT6 := Aside0.mk ht
            have HB6 := Aside0.mk (HB5.out.trans hb)
            clear ht hb HD
            go_wp2_with fail
            go_meet
            exact ⟨rfl, _, ⟨by have := HL.out; rw [List.length_dropLast]; omega⟩, HT6, HB6⟩
          · -- 3
            go_wp2_with fail
            refine (p_trim HT4.out m).mono ?_
            rintro e w5 ⟨rfl, ht, hb⟩
            have HT5 := Aside0.mk ht
            have HB5 := Aside0.mk (HB4.out.trans hb)
            obtain ⟨d0, d1, d2, d3, d4⟩ := ht.cells
            have HD := Aside0.mk (d_trim HT5.out m)
            clear ht hb c0 c1 c2 c3 c4
            go_wp2_with fail
            refine HD.out.mono ?_
            rintro e w6 ⟨rfl, ht, hb⟩
            have HT6 := Aside0.mk ht
            have HB6 := Aside0.mk (HB5.out.trans hb)
            clear ht hb HD
            go_wp2_with fail
            go_meet
            exact ⟨rfl, _, ⟨by have := HL.out; rw [trimL_length]; omega⟩, HT6, HB6⟩
          · -- 4
            go_wp2_with fail
            refine (p_set HT4.out m x HX.out.1 HX.out.2).mono ?_
            rintro e w5 ⟨rfl, ht, hb⟩
            have HT5 := Aside0.mk ht
            have HB5 := Aside0.mk (HB4.out.trans hb)
            obtain ⟨d0, d1, d2, d3, d4⟩ := ht.cells
            have HD := Aside0.mk (d_set HT5.out m x HX.out.1 HX.out.2)
            clear ht hb c0 c1 c2 c3 c4
            go_wp2_with fail
            refine HD.out.mono ?_
            rintro e w6 ⟨rfl, ht, hb⟩
            have HT6 := Aside0.mk ht
            have HB6 := Aside0.mk (HB5.out.trans hb)
            clear ht hb HD
            go_wp2_with fail
            go_meet
            exact ⟨rfl, _, ⟨by have := HL.out; rw [Go.Proofs.YthdmacdeefohkaaStkT.setL_length]; omega⟩, HT6, HB6⟩
          · -- 5
            go_wp2_with fail
            refine (p_set HT4.out m x HX.out.1 HX.out.2).mono ?_
            rintro e w5 ⟨rfl, ht, hb⟩
            have HT5 := Aside0.mk ht
            have HB5 := Aside0.mk (HB4.out.trans hb)
            obtain ⟨d0, d1, d2, d3, d4⟩ := ht.cells
            have HD := Aside0.mk (d_set HT5.out m x HX.out.1 HX.out.2)
            clear ht hb c0 c1 c2 c3 c4
            go_wp2_with fail
            refine HD.out.mono ?_
            rintro e w6 ⟨rfl, ht, hb⟩
            have HT6 := Aside0.mk ht
            have HB6 := Aside0.mk (HB5.out.trans hb)
            clear ht hb HD
            go_wp2_with fail
            go_meet
            exact ⟨rfl, _, ⟨by have := HL.out; rw [Go.Proofs.YthdmacdeefohkaaStkT.setL_length]; omega⟩, HT6, HB6⟩
          · -- 6
            go_wp2_with fail
            refine (p_set HT4.out m x HX.out.1 HX.out.2).mono ?_
            rintro e w5 ⟨rfl, ht, hb⟩
            have HT5 := Aside0.mk ht
            have HB5 := Aside0.mk (HB4.out.trans hb)
            obtain ⟨d0, d1, d2, d3, d4⟩ := ht.cells
            have HD := Aside0.mk (d_set HT5.out m x HX.out.1 HX.out.2)
            clear ht hb c0 c1 c2 c3 c4
            go_wp2_with fail
            refine HD.out.mono ?_
            rintro e w6 ⟨rfl, ht, hb⟩
            have HT6 := Aside0.mk ht
            have HB6 := Aside0.mk (HB5.out.trans hb)
            clear ht hb HD
            go_wp2_with fail
            go_meet
            exact ⟨rfl, _, ⟨by have := HL.out; rw [Go.Proofs.YthdmacdeefohkaaStkT.setL_length]; omega⟩, HT6, HB6⟩
          · -- 7
            go_wp2_with fail
            go_region_held3 (fun w' => w'.cell? ⟨q, 4, none⟩ = some (.slice A xs.length c))
              (first | go_keep | assumption)
              ((first
                | (go_at_call 58; refine (Go.Proofs.YthdmacdeefohkaaGt.copy_calls _ A xs.length c xs (ReadsInt.below HRD.out (below_drew HB4.out)) (by omega)).mono ?_; rintro e w5 ⟨v5, rfl, ho, hb⟩; obtain ⟨A5, c5, rfl, hc5, hr5, ha5⟩ := own_row ho; have HC5 := Aside0.mk hc5; have HR5 := Aside0.mk hr5; have HA5 := Aside0.mk ha5; have HK5 := Aside0.mk hb; have d4 := pw_cell_below (w := w4.drew) hb c4; clear ho hc5 hr5 ha5 hb)
                | (go_at_call 27; refine (p_load HT4.out.drew HK5.out A5 xs.length c5 xs HR5.out HC5.out HA5.out HW64.out).mono ?_; rintro e w6 ⟨rfl, ht, hb⟩; have HT6 := Aside0.mk ht; have HB6 := Aside0.mk ((below_then (below_drew HB4.out) HB4.out.size HK5.out).trans hb); obtain ⟨_, _, _, _, f4⟩ := ht.cells; clear ht hb)
                | (go_at_call 59; refine (d_load HT6.out A xs.length c xs (ReadsInt.below HRD.out HB6.out) (by omega) (fun ad e h0 => HBK.out ad e h0) HW64.out).mono ?_; rintro e w7 ⟨rfl, ht, hb⟩; have HT7 := Aside0.mk ht; have HB7 := Aside0.mk (HB6.out.trans hb); obtain ⟨_, _, _, _, g4⟩ := ht.cells; clear ht hb)))
            go_wp2_with fail
            go_meet
            exact ⟨by first | rfl | (simp; done), _, ⟨by have := HL.out; rw [ldL_length]; omega⟩, HT7, HB7⟩
          · -- 8
            go_wp2_with fail
            refine (p_unwind HT4.out).mono ?_
            rintro e w5 ⟨rfl, ht, hb⟩
            have HT5 := Aside0.mk ht
            have HB5 := Aside0.mk (HB4.out.trans hb)
            obtain ⟨d0, d1, d2, d3, d4⟩ := ht.cells
            have HD := Aside0.mk (d_unwind HT5.out)
            clear ht hb c0 c1 c2 c3 c4
            generalize uA L = y1 at HD ⊢
            generalize uB L = y2 at HD ⊢
            generalize uC L = y3 at HD ⊢
            go_wp2_with fail
            refine HD.out.mono ?_
            rintro e w6 ⟨rfl, ht, hb⟩
            have HT6 := Aside0.mk ht
            have HB6 := Aside0.mk (HB5.out.trans hb)
            clear ht hb HD
            go_wp2_with fail
            go_meet
            exact ⟨rfl, _, ⟨by have := HL.out; have := uD_length L; omega⟩, HT6, HB6⟩
        case rest =>
          obtain ⟨rfl, L2, HL2, HT, HB⟩ := hcut
          clear HT4 HB4 HL hp0 hp1
          obtain ⟨A2, c2, g0⟩ := HT.out.gcell
          obtain ⟨_, q0, _, _, _⟩ := HT.out.cells
          have HQ0 := Aside0.mk q0
          have HG0 := Aside0.mk g0
          clear q0 g0
          go_wp2_with fail
          have HBB := Aside0.mk (below_drew (Below.refl wc.heap.size wc))
          refine start_ (n := 52) (S := fun w' => Below wc.heap.size wc w') (ds := []) #[false, false, false, false, false, false, false, false, false, false, false, false, false, false, false, false, false, false, false, false, false, false, false, false, false, false, false, false, false, false, false, false, false, false, false, false, false, false, false, false, false, false, false, false, false, false, false, false, false, false, false, false] (by kernel_rfl) rfl rfl HBB.out (fun hHeld => ?_); refine with_tabW tab29 bits29 (fun HT_ HW_ => ?_)
          generalize wc.drew = wd at HBB hHeld ⊢
          refine pure_ (i := 0) (N := (some 125)) (v := ?_) (a' := ?_) #[true, false, false, false, false, false, false, false, false, false, false, false, false, false, false, false, false, false, false, false, false, false, false, false, false, false, false, false, false, false, false, false, false, false, false, false, false, false, false, false, false, false, false, false, false, false, false, false, false, false, false, false] rfl rfl (any_of HT_.out (by kernel_rfl)) (fun _ _ _ h => h) (Or.inl ⟨by rfl, ?_⟩) ?_ ?_
          rotate_left; (intro w'; go_simp; with_reducible rfl)
          rotate_left; (simp only [Act.put, List.setIfInBounds_toArray, List.set_cons_zero, List.set_cons_succ, i64_w, i32_w]; rfl)
          refine pure_ (i := 1) (N := (some 126)) (v := ?_) (a' := ?_) #[true, true, false, false, false, false, false, false, false, false, false, false, false, false, false, false, false, false, false, false, false, false, false, false, false, false, false, false, false, false, false, false, false, false, false, false, false, false, false, false, false, false, false, false, false, false, false, false, false, false, false, false] rfl rfl (any_of HT_.out (by kernel_rfl)) (fun _ _ _ h => h) (Or.inl ⟨by rfl, ?_⟩) ?_ ?_
          rotate_left; (intro w'; go_simp; with_reducible rfl)
          rotate_left; (simp only [Act.put, List.setIfInBounds_toArray, List.set_cons_zero, List.set_cons_succ, i64_w, i32_w]; rfl)
          refine pure_ (i := 2) (N := (some 127)) (v := ?_) (a' := ?_) #[true, true, true, false, false, false, false, false, false, false, false, false, false, false, false, false, false, false, false, false, false, false, false, false, false, false, false, false, false, false, false, false, false, false, false, false, false, false, false, false, false, false, false, false, false, false, false, false, false, false, false, false] rfl rfl (any_of HT_.out (by kernel_rfl)) (fun _ _ _ h => h) (Or.inl ⟨by rfl, ?_⟩) ?_ ?_
          rotate_left; (intro w'; go_simp; with_reducible rfl)
          rotate_left; (simp only [Act.put, List.setIfInBounds_toArray, List.set_cons_zero, List.set_cons_succ, i64_w, i32_w]; rfl)
          refine pure_ (i := 3) (N := (some 128)) (v := ?_) (a' := ?_) #[true, true, true, true, false, false, false, false, false, false, false, false, false, false, false, false, false, false, false, false, false, false, false, false, false, false, false, false, false, false, false, false, false, false, false, false, false, false, false, false, false, false, false, false, false, false, false, false, false, false, false, false] rfl rfl (any_of HT_.out (by kernel_rfl)) (fun _ _ _ h => h) (Or.inl ⟨by rfl, ?_⟩) ?_ ?_
          rotate_left; (intro w'; go_simp; with_reducible rfl)
          rotate_left; (simp only [Act.put, List.setIfInBounds_toArray, List.set_cons_zero, List.set_cons_succ, i64_w, i32_w]; rfl)
          refine pure_ (i := 4) (N := (some 129)) (v := ?_) (a' := ?_) #[true, true, true, true, true, false, false, false, false, false, false, false, false, false, false, false, false, false, false, false, false, false, false, false, false, false, false, false, false, false, false, false, false, false, false, false, false, false, false, false, false, false, false, false, false, false, false, false, false, false, false, false] rfl rfl (any_of HT_.out (by kernel_rfl)) (fun _ _ _ h => h) (Or.inl ⟨by rfl, ?_⟩) ?_ ?_
          rotate_left; (intro w'; go_simp; with_reducible rfl)
          rotate_left; (simp only [Act.put, List.setIfInBounds_toArray, List.set_cons_zero, List.set_cons_succ, i64_w, i32_w]; rfl)
          refine take_ (i := 5) (N := (some 130)) (v := ?_) (a' := ?_) #[true, true, true, true, true, true, false, false, false, false, false, false, false, false, false, false, false, false, false, false, false, false, false, false, false, false, false, false, false, false, false, false, false, false, false, false, false, false, false, false, false, false, false, false, false, false, false, false, false, false, false, false] rfl rfl (take_ofW HT_.out HW_.out (by kernel_rfl)) (fun _ _ _ h => h) (Or.inl ⟨by rfl, ?_⟩) hHeld ?_ ?_
          rotate_left; (intro w' hs; have s0 := pw_cell_below hs HQ0.out; go_simp; with_reducible rfl)
          rotate_left; (simp only [Act.put, List.setIfInBounds_toArray, List.set_cons_zero, List.set_cons_succ, i64_w, i32_w]; rfl)
          refine pure_ (i := 7) (N := (some 132)) (v := ?_) (a' := ?_) #[true, true, true, true, true, true, false, true, false, false, false, false, false, false, false, false, false, false, false, false, false, false, false, false, false, false, false, false, false, false, false, false, false, false, false, false, false, false, false, false, false, false, false, false, false, false, false, false, false, false, false, false] rfl rfl (any_of HT_.out (by kernel_rfl)) (fun _ _ _ h => h) (Or.inl ⟨by rfl, ?_⟩) ?_ ?_
          rotate_left; (intro w'; go_simp; with_reducible rfl)
          rotate_left; (simp only [Act.put, List.setIfInBounds_toArray, List.set_cons_zero, List.set_cons_succ, i64_w, i32_w]; rfl)
          refine pure_ (i := 8) (N := (some 133)) (v := ?_) (a' := ?_) #[true, true, true, true, true, true, false, true, true, false, false, false, false, false, false, false, false, false, false, false, false, false, false, false, false, false, false, false, false, false, false, false, false, false, false, false, false, false, false, false, false, false, false, false, false, false, false, false, false, false, false, false] rfl rfl (any_of HT_.out (by kernel_rfl)) (fun _ _ _ h => h) (Or.inl ⟨by rfl, ?_⟩) ?_ ?_
          rotate_left; (intro w'; go_simp; with_reducible rfl)
          rotate_left; (simp only [Act.put, List.setIfInBounds_toArray, List.set_cons_zero, List.set_cons_succ, i64_w, i32_w]; rfl)
          refine take_ (i := 9) (N := (some 134)) (v := ?_) (a' := ?_) #[true, true, true, true, true, true, false, true, true, true, false, false, false, false, false, false, false, false, false, false, false, false, false, false, false, false, false, false, false, false, false, false, false, false, false, false, false, false, false, false, false, false, false, false, false, false, false, false, false, false, false, false] rfl rfl (take_ofW HT_.out HW_.out (by kernel_rfl)) (fun _ _ _ h => h) (Or.inl ⟨by rfl, ?_⟩) hHeld ?_ ?_
          rotate_left; (intro w' hs; have s0 := pw_cell_below hs HQ0.out; go_simp; with_reducible rfl)
          rotate_left; (simp only [Act.put, List.setIfInBounds_toArray, List.set_cons_zero, List.set_cons_succ, i64_w, i32_w]; rfl)
          refine one_ (i := 6) (N := (some 131)) #[true, true, true, true, true, true, true, true, true, true, false, false, false, false, false, false, false, false, false, false, false, false, false, false, false, false, false, false, false, false, false, false, false, false, false, false, false, false, false, false, false, false, false, false, false, false, false, false, false, false, false, false] rfl rfl (one_of HT_.out (by kernel_rfl)) (by decide) (fun K hK => ?_)
          refine goes_ Try.func22 (by kernel_rfl) rfl #[.pointer (some ⟨s, 0, none⟩), .int .i64 m] (by rfl) rfl rfl (by (try simp only [List.map_toArray, List.map_cons, List.map_nil]); first | done | rfl) ?_
          refine (p_slot (HT.out.below HBB.out) m).mono ?_
          rintro e x6 ⟨rfl, hb⟩
          refine ⟨_, rfl, ?_⟩
          have n0_ := Aside0.mk (below_step HBB.out hb)
          clear HBB hHeld hb
          have HBB := n0_
          clear n0_
          refine hK.out _ _ HBB.out (fun hHeld => ?_)
          clear hK K
          refine norm_ (a' := ?_) ?_ ?_
          rotate_left
          · show Act.put _ (some 131) _ = _
            simp only [Act.put, List.setIfInBounds_toArray, List.set_cons_zero, List.set_cons_succ, i64_w, i32_w]
            rfl
          refine one_ (i := 10) (N := (some 135)) #[true, true, true, true, true, true, true, true, true, true, true, false, false, false, false, false, false, false, false, false, false, false, false, false, false, false, false, false, false, false, false, false, false, false, false, false, false, false, false, false, false, false, false, false, false, false, false, false, false, false, false, false] rfl rfl (one_of HT_.out (by kernel_rfl)) (by decide) (fun K hK => ?_)
          refine goes_ Try.func62 (by kernel_rfl) rfl #[.pointer (some ⟨g, 0, none⟩), .int .i64 m] (by rfl) rfl rfl (by (try simp only [List.map_toArray, List.map_cons, List.map_nil]); first | done | rfl) ?_
          refine ((d_slot (HT.out.below HBB.out) m).be).mono ?_
          rintro e x10 ⟨rfl, hb⟩
          refine ⟨_, rfl, ?_⟩
          have n0_ := Aside0.mk (below_step HBB.out hb)
          clear HBB hHeld hb
          have HBB := n0_
          clear n0_
          refine hK.out _ _ HBB.out (fun hHeld => ?_)
          clear hK K
          refine norm_ (a' := ?_) ?_ ?_
          rotate_left
          · show Act.put _ (some 135) _ = _
            simp only [Act.put, List.setIfInBounds_toArray, List.set_cons_zero, List.set_cons_succ, i64_w, i32_w]
            rfl
          refine pure_ (i := 11) (N := (some 136)) (v := ?_) (a' := ?_) #[true, true, true, true, true, true, true, true, true, true, true, true, false, false, false, false, false, false, false, false, false, false, false, false, false, false, false, false, false, false, false, false, false, false, false, false, false, false, false, false, false, false, false, false, false, false, false, false, false, false, false, false] rfl rfl (any_of HT_.out (by kernel_rfl)) (fun _ _ _ h => h) (Or.inl ⟨by rfl, ?_⟩) ?_ ?_
          rotate_left; (intro w'; go_simp; with_reducible rfl)
          rotate_left; (simp only [Act.put, List.setIfInBounds_toArray, List.set_cons_zero, List.set_cons_succ, i64_w, i32_w]; rfl)
          refine pure_ (i := 12) (N := (some 137)) (v := ?_) (a' := ?_) #[true, true, true, true, true, true, true, true, true, true, true, true, true, false, false, false, false, false, false, false, false, false, false, false, false, false, false, false, false, false, false, false, false, false, false, false, false, false, false, false, false, false, false, false, false, false, false, false, false, false, false, false] rfl rfl (any_of HT_.out (by kernel_rfl)) (fun _ _ _ h => h) (Or.inl ⟨by rfl, ?_⟩) ?_ ?_
          rotate_left; (intro w'; go_simp; with_reducible rfl)
          rotate_left; (simp only [Act.put, List.setIfInBounds_toArray, List.set_cons_zero, List.set_cons_succ, i64_w, i32_w]; rfl)
          refine pure_ (i := 13) (N := (some 138)) (v := ?_) (a' := ?_) #[true, true, true, true, true, true, true, true, true, true, true, true, true, true, false, false, false, false, false, false, false, false, false, false, false, false, false, false, false, false, false, false, false, false, false, false, false, false, false, false, false, false, false, false, false, false, false, false, false, false, false, false] rfl rfl (any_of HT_.out (by kernel_rfl)) (fun _ _ _ h => h) (Or.inl ⟨by rfl, ?_⟩) ?_ ?_
          rotate_left; (intro w'; go_simp; with_reducible rfl)
          rotate_left; (simp only [Act.put, List.setIfInBounds_toArray, List.set_cons_zero, List.set_cons_succ, i64_w, i32_w]; rfl)
          refine pure_ (i := 14) (N := (some 139)) (v := ?_) (a' := ?_) #[true, true, true, true, true, true, true, true, true, true, true, true, true, true, true, false, false, false, false, false, false, false, false, false, false, false, false, false, false, false, false, false, false, false, false, false, false, false, false, false, false, false, false, false, false, false, false, false, false, false, false, false] rfl rfl (any_of HT_.out (by kernel_rfl)) (fun _ _ _ h => h) (Or.inl ⟨by rfl, ?_⟩) ?_ ?_
          rotate_left; (intro w'; go_simp; with_reducible rfl)
          rotate_left; (simp only [Act.put, List.setIfInBounds_toArray, List.set_cons_zero, List.set_cons_succ, i64_w, i32_w]; rfl)
          refine pure_ (i := 16) (N := (some 141)) (v := ?_) (a' := ?_) #[true, true, true, true, true, true, true, true, true, true, true, true, true, true, true, false, true, false, false, false, false, false, false, false, false, false, false, false, false, false, false, false, false, false, false, false, false, false, false, false, false, false, false, false, false, false, false, false, false, false, false, false] rfl rfl (any_of HT_.out (by kernel_rfl)) (fun _ _ _ h => h) (Or.inl ⟨by rfl, ?_⟩) ?_ ?_
          rotate_left; (intro w'; go_simp; with_reducible rfl)
          rotate_left; (simp only [Act.put, List.setIfInBounds_toArray, List.set_cons_zero, List.set_cons_succ, i64_w, i32_w]; rfl)
          refine one_ (i := 15) (N := (some 140)) #[true, true, true, true, true, true, true, true, true, true, true, true, true, true, true, true, true, false, false, false, false, false, false, false, false, false, false, false, false, false, false, false, false, false, false, false, false, false, false, false, false, false, false, false, false, false, false, false, false, false, false, false] rfl rfl (one_of HT_.out (by kernel_rfl)) (by decide) (fun K hK => ?_)
          refine goes_ Try.func17 (by kernel_rfl) rfl #[.pointer (some ⟨s, 0, none⟩)] (by rfl) rfl rfl (by (try simp only [List.map_toArray, List.map_cons, List.map_nil]); first | done | rfl) ?_
          refine (p_slots (HT.out.below HBB.out)).mono ?_
          rintro e x15 ⟨rfl, hb⟩
          refine ⟨_, rfl, ?_⟩
          have n0_ := Aside0.mk (below_step HBB.out hb)
          clear HBB hHeld hb
          have HBB := n0_
          clear n0_
          refine hK.out _ _ HBB.out (fun hHeld => ?_)
          clear hK K
          refine norm_ (a' := ?_) ?_ ?_
          rotate_left
          · show Act.put _ (some 140) _ = _
            simp only [Act.put, List.setIfInBounds_toArray, List.set_cons_zero, List.set_cons_succ, i64_w, i32_w]
            rfl
          refine one_ (i := 17) (N := (some 142)) #[true, true, true, true, true, true, true, true, true, true, true, true, true, true, true, true, true, true, false, false, false, false, false, false, false, false, false, false, false, false, false, false, false, false, false, false, false, false, false, false, false, false, false, false, false, false, false, false, false, false, false, false] rfl rfl (one_of HT_.out (by kernel_rfl)) (by decide) (fun K hK => ?_)
          refine goes_ Try.func63 (by kernel_rfl) rfl #[.pointer (some ⟨g, 0, none⟩)] (by rfl) rfl rfl (by (try simp only [List.map_toArray, List.map_cons, List.map_nil]); first | done | rfl) ?_
          refine ((d_slots (HT.out.below HBB.out)).be).mono ?_
          rintro e x17 ⟨rfl, hb⟩
          refine ⟨_, rfl, ?_⟩
          have n0_ := Aside0.mk (below_step HBB.out hb)
          clear HBB hHeld hb
          have HBB := n0_
          clear n0_
          refine hK.out _ _ HBB.out (fun hHeld => ?_)
          clear hK K
          refine norm_ (a' := ?_) ?_ ?_
          rotate_left
          · show Act.put _ (some 142) _ = _
            simp only [Act.put, List.setIfInBounds_toArray, List.set_cons_zero, List.set_cons_succ, i64_w, i32_w]
            rfl
          refine pure_ (i := 18) (N := (some 143)) (v := ?_) (a' := ?_) #[true, true, true, true, true, true, true, true, true, true, true, true, true, true, true, true, true, true, true, false, false, false, false, false, false, false, false, false, false, false, false, false, false, false, false, false, false, false, false, false, false, false, false, false, false, false, false, false, false, false, false, false] rfl rfl (any_of HT_.out (by kernel_rfl)) (fun _ _ _ h => h) (Or.inl ⟨by rfl, ?_⟩) ?_ ?_
          rotate_left; (intro w'; go_simp; with_reducible rfl)
          rotate_left; (simp only [Act.put, List.setIfInBounds_toArray, List.set_cons_zero, List.set_cons_succ, i64_w, i32_w]; rfl)
          refine pure_ (i := 19) (N := (some 144)) (v := ?_) (a' := ?_) #[true, true, true, true, true, true, true, true, true, true, true, true, true, true, true, true, true, true, true, true, false, false, false, false, false, false, false, false, false, false, false, false, false, false, false, false, false, false, false, false, false, false, false, false, false, false, false, false, false, false, false, false] rfl rfl (any_of HT_.out (by kernel_rfl)) (fun _ _ _ h => h) (Or.inl ⟨by rfl, ?_⟩) ?_ ?_
          rotate_left; (intro w'; go_simp; with_reducible rfl)
          rotate_left; (simp only [Act.put, List.setIfInBounds_toArray, List.set_cons_zero, List.set_cons_succ, i64_w, i32_w]; rfl)
          refine pure_ (i := 20) (N := (some 145)) (v := ?_) (a' := ?_) #[true, true, true, true, true, true, true, true, true, true, true, true, true, true, true, true, true, true, true, true, true, false, false, false, false, false, false, false, false, false, false, false, false, false, false, false, false, false, false, false, false, false, false, false, false, false, false, false, false, false, false, false] rfl rfl (any_of HT_.out (by kernel_rfl)) (fun _ _ _ h => h) (Or.inl ⟨by rfl, ?_⟩) ?_ ?_
          rotate_left; (intro w'; go_simp; with_reducible rfl)
          rotate_left; (simp only [Act.put, List.setIfInBounds_toArray, List.set_cons_zero, List.set_cons_succ, i64_w, i32_w]; rfl)
          refine pure_ (i := 21) (N := (some 146)) (v := ?_) (a' := ?_) #[true, true, true, true, true, true, true, true, true, true, true, true, true, true, true, true, true, true, true, true, true, true, false, false, false, false, false, false, false, false, false, false, false, false, false, false, false, false, false, false, false, false, false, false, false, false, false, false, false, false, false, false] rfl rfl (any_of HT_.out (by kernel_rfl)) (fun _ _ _ h => h) (Or.inl ⟨by rfl, ?_⟩) ?_ ?_
          rotate_left; (intro w'; go_simp; with_reducible rfl)
          rotate_left; (simp only [Act.put, List.setIfInBounds_toArray, List.set_cons_zero, List.set_cons_succ, i64_w, i32_w]; rfl)
          refine pure_ (i := 23) (N := (some 148)) (v := ?_) (a' := ?_) #[true, true, true, true, true, true, true, true, true, true, true, true, true, true, true, true, true, true, true, true, true, true, false, true, false, false, false, false, false, false, false, false, false, false, false, false, false, false, false, false, false, false, false, false, false, false, false, false, false, false, false, false] rfl rfl (any_of HT_.out (by kernel_rfl)) (fun _ _ _ h => h) (Or.inl ⟨by rfl, ?_⟩) ?_ ?_
          rotate_left; (intro w'; go_simp; with_reducible rfl)
          rotate_left; (simp only [Act.put, List.setIfInBounds_toArray, List.set_cons_zero, List.set_cons_succ, i64_w, i32_w]; rfl)
          refine one_ (i := 22) (N := (some 147)) #[true, true, true, true, true, true, true, true, true, true, true, true, true, true, true, true, true, true, true, true, true, true, true, true, false, false, false, false, false, false, false, false, false, false, false, false, false, false, false, false, false, false, false, false, false, false, false, false, false, false, false, false] rfl rfl (one_of HT_.out (by kernel_rfl)) (by decide) (fun K hK => ?_)
          refine goes_ Try.func21 (by kernel_rfl) rfl #[.pointer (some ⟨s, 0, none⟩)] (by rfl) rfl rfl (by (try simp only [List.map_toArray, List.map_cons, List.map_nil]); first | done | rfl) ?_
          refine (p_back (HT.out.below HBB.out)).mono ?_
          rintro e x22 ⟨rfl, hb⟩
          refine ⟨_, rfl, ?_⟩
          have n0_ := Aside0.mk (below_step HBB.out hb)
          clear HBB hHeld hb
          have HBB := n0_
          clear n0_
          refine hK.out _ _ HBB.out (fun hHeld => ?_)
          clear hK K
          refine norm_ (a' := ?_) ?_ ?_
          rotate_left
          · show Act.put _ (some 147) _ = _
            simp only [Act.put, List.setIfInBounds_toArray, List.set_cons_zero, List.set_cons_succ, i64_w, i32_w]
            rfl
          refine one_ (i := 24) (N := (some 149)) #[true, true, true, true, true, true, true, true, true, true, true, true, true, true, true, true, true, true, true, true, true, true, true, true, true, false, false, false, false, false, false, false, false, false, false, false, false, false, false, false, false, false, false, false, false, false, false, false, false, false, false, false] rfl rfl (one_of HT_.out (by kernel_rfl)) (by decide) (fun K hK => ?_)
          refine goes_ Try.func64 (by kernel_rfl) rfl #[.pointer (some ⟨g, 0, none⟩)] (by rfl) rfl rfl (by (try simp only [List.map_toArray, List.map_cons, List.map_nil]); first | done | rfl) ?_
          refine ((d_back (HT.out.below HBB.out)).be).mono ?_
          rintro e x24 ⟨rfl, hb⟩
          refine ⟨_, rfl, ?_⟩
          have n0_ := Aside0.mk (below_step HBB.out hb)
          clear HBB hHeld hb
          have HBB := n0_
          clear n0_
          refine hK.out _ _ HBB.out (fun hHeld => ?_)
          clear hK K
          refine norm_ (a' := ?_) ?_ ?_
          rotate_left
          · show Act.put _ (some 149) _ = _
            simp only [Act.put, List.setIfInBounds_toArray, List.set_cons_zero, List.set_cons_succ, i64_w, i32_w]
            rfl
          refine pure_ (i := 25) (N := (some 150)) (v := ?_) (a' := ?_) #[true, true, true, true, true, true, true, true, true, true, true, true, true, true, true, true, true, true, true, true, true, true, true, true, true, true, false, false, false, false, false, false, false, false, false, false, false, false, false, false, false, false, false, false, false, false, false, false, false, false, false, false] rfl rfl (any_of HT_.out (by kernel_rfl)) (fun _ _ _ h => h) (Or.inl ⟨by rfl, ?_⟩) ?_ ?_
          rotate_left; (intro w'; go_simp; with_reducible rfl)
          rotate_left; (simp only [Act.put, List.setIfInBounds_toArray, List.set_cons_zero, List.set_cons_succ, i64_w, i32_w]; rfl)
          refine pure_ (i := 26) (N := (some 151)) (v := ?_) (a' := ?_) #[true, true, true, true, true, true, true, true, true, true, true, true, true, true, true, true, true, true, true, true, true, true, true, true, true, true, true, false, false, false, false, false, false, false, false, false, false, false, false, false, false, false, false, false, false, false, false, false, false, false, false, false] rfl rfl (any_of HT_.out (by kernel_rfl)) (fun _ _ _ h => h) (Or.inl ⟨by rfl, ?_⟩) ?_ ?_
          rotate_left; (intro w'; go_simp; with_reducible rfl)
          rotate_left; (simp only [Act.put, List.setIfInBounds_toArray, List.set_cons_zero, List.set_cons_succ, i64_w, i32_w]; rfl)
          refine pure_ (i := 27) (N := (some 152)) (v := ?_) (a' := ?_) #[true, true, true, true, true, true, true, true, true, true, true, true, true, true, true, true, true, true, true, true, true, true, true, true, true, true, true, true, false, false, false, false, false, false, false, false, false, false, false, false, false, false, false, false, false, false, false, false, false, false, false, false] rfl rfl (any_of HT_.out (by kernel_rfl)) (fun _ _ _ h => h) (Or.inl ⟨by rfl, ?_⟩) ?_ ?_
          rotate_left; (intro w'; go_simp; with_reducible rfl)
          rotate_left; (simp only [Act.put, List.setIfInBounds_toArray, List.set_cons_zero, List.set_cons_succ, i64_w, i32_w]; rfl)
          refine pure_ (i := 28) (N := (some 153)) (v := ?_) (a' := ?_) #[true, true, true, true, true, true, true, true, true, true, true, true, true, true, true, true, true, true, true, true, true, true, true, true, true, true, true, true, true, false, false, false, false, false, false, false, false, false, false, false, false, false, false, false, false, false, false, false, false, false, false, false] rfl rfl (any_of HT_.out (by kernel_rfl)) (fun _ _ _ h => h) (Or.inl ⟨by rfl, ?_⟩) ?_ ?_
          rotate_left; (intro w'; go_simp; with_reducible rfl)
          rotate_left; (simp only [Act.put, List.setIfInBounds_toArray, List.set_cons_zero, List.set_cons_succ, i64_w, i32_w]; rfl)
          refine pure_ (i := 30) (N := (some 155)) (v := ?_) (a' := ?_) #[true, true, true, true, true, true, true, true, true, true, true, true, true, true, true, true, true, true, true, true, true, true, true, true, true, true, true, true, true, false, true, false, false, false, false, false, false, false, false, false, false, false, false, false, false, false, false, false, false, false, false, false] rfl rfl (any_of HT_.out (by kernel_rfl)) (fun _ _ _ h => h) (Or.inl ⟨by rfl, ?_⟩) ?_ ?_
          rotate_left; (intro w'; go_simp; with_reducible rfl)
          rotate_left; (simp only [Act.put, List.setIfInBounds_toArray, List.set_cons_zero, List.set_cons_succ, i64_w, i32_w]; rfl)
          refine pure_ (i := 31) (N := (some 156)) (v := ?_) (a' := ?_) #[true, true, true, true, true, true, true, true, true, true, true, true, true, true, true, true, true, true, true, true, true, true, true, true, true, true, true, true, true, false, true, true, false, false, false, false, false, false, false, false, false, false, false, false, false, false, false, false, false, false, false, false] rfl rfl (any_of HT_.out (by kernel_rfl)) (fun _ _ _ h => h) (Or.inl ⟨by rfl, ?_⟩) ?_ ?_
          rotate_left; (intro w'; go_simp; with_reducible rfl)
          rotate_left; (simp only [Act.put, List.setIfInBounds_toArray, List.set_cons_zero, List.set_cons_succ, i64_w, i32_w]; rfl)
          refine pure_ (i := 32) (N := (some 157)) (v := ?_) (a' := ?_) #[true, true, true, true, true, true, true, true, true, true, true, true, true, true, true, true, true, true, true, true, true, true, true, true, true, true, true, true, true, false, true, true, true, false, false, false, false, false, false, false, false, false, false, false, false, false, false, false, false, false, false, false] rfl rfl (any_of HT_.out (by kernel_rfl)) (fun _ _ _ h => h) (Or.inl ⟨by rfl, ?_⟩) ?_ ?_
          rotate_left; (intro w'; go_simp; with_reducible rfl)
          rotate_left; (simp only [Act.put, List.setIfInBounds_toArray, List.set_cons_zero, List.set_cons_succ, i64_w, i32_w]; rfl)
          refine take_ (i := 33) (N := (some 158)) (v := ?_) (a' := ?_) #[true, true, true, true, true, true, true, true, true, true, true, true, true, true, true, true, true, true, true, true, true, true, true, true, true, true, true, true, true, false, true, true, true, true, false, false, false, false, false, false, false, false, false, false, false, false, false, false, false, false, false, false] rfl rfl (take_ofW HT_.out HW_.out (by kernel_rfl)) (fun _ _ _ h => h) (Or.inl ⟨by rfl, ?_⟩) hHeld ?_ ?_
          rotate_left; (intro w' hs; have s0 := pw_cell_below hs HG0.out; go_simp; with_reducible rfl)
          rotate_left; (simp only [Act.put, List.setIfInBounds_toArray, List.set_cons_zero, List.set_cons_succ, i64_w, i32_w]; rfl)
          refine pure_ (i := 34) (N := (some 159)) (v := ?_) (a' := ?_) #[true, true, true, true, true, true, true, true, true, true, true, true, true, true, true, true, true, true, true, true, true, true, true, true, true, true, true, true, true, false, true, true, true, true, true, false, false, false, false, false, false, false, false, false, false, false, false, false, false, false, false, false] rfl rfl (any_of HT_.out (by kernel_rfl)) (fun _ _ _ h => h) (Or.inl ⟨by rfl, ?_⟩) ?_ ?_
          rotate_left; (intro w'; go_simp; with_reducible rfl)
          rotate_left; (simp only [Act.put, List.setIfInBounds_toArray, List.set_cons_zero, List.set_cons_succ, i64_w, i32_w]; rfl)
          refine one_ (i := 29) (N := (some 154)) #[true, true, true, true, true, true, true, true, true, true, true, true, true, true, true, true, true, true, true, true, true, true, true, true, true, true, true, true, true, true, true, true, true, true, true, false, false, false, false, false, false, false, false, false, false, false, false, false, false, false, false, false] rfl rfl (one_of HT_.out (by kernel_rfl)) (by decide) (fun K hK => ?_)
          refine goes_ Try.func20 (by kernel_rfl) rfl #[.pointer (some ⟨s, 0, none⟩)] (by rfl) rfl rfl (by (try simp only [List.map_toArray, List.map_cons, List.map_nil]); first | done | rfl) ?_
          refine (p_depth (HT.out.below HBB.out)).mono ?_
          rintro e x29 ⟨rfl, hb⟩
          refine ⟨_, rfl, ?_⟩
          have n0_ := Aside0.mk (below_step HBB.out hb)
          clear HBB hHeld hb
          have HBB := n0_
          clear n0_
          refine hK.out _ _ HBB.out (fun hHeld => ?_)
          clear hK K
          refine norm_ (a' := ?_) ?_ ?_
          rotate_left
          · show Act.put _ (some 154) _ = _
            simp only [Act.put, List.setIfInBounds_toArray, List.set_cons_zero, List.set_cons_succ, i64_w, i32_w]
            rfl
          refine pure_ (i := 35) (N := (some 160)) (v := ?_) (a' := ?_) #[true, true, true, true, true, true, true, true, true, true, true, true, true, true, true, true, true, true, true, true, true, true, true, true, true, true, true, true, true, true, true, true, true, true, true, true, false, false, false, false, false, false, false, false, false, false, false, false, false, false, false, false] rfl rfl (any_of HT_.out (by kernel_rfl)) (fun _ _ _ h => h) (Or.inl ⟨by rfl, ?_⟩) ?_ ?_
          rotate_left; (intro w'; go_simp; with_reducible rfl)
          rotate_left; (simp only [Act.put, List.setIfInBounds_toArray, List.set_cons_zero, List.set_cons_succ, i64_w, i32_w]; rfl)
          refine pure_ (i := 36) (N := (some 161)) (v := ?_) (a' := ?_) #[true, true, true, true, true, true, true, true, true, true, true, true, true, true, true, true, true, true, true, true, true, true, true, true, true, true, true, true, true, true, true, true, true, true, true, true, true, false, false, false, false, false, false, false, false, false, false, false, false, false, false, false] rfl rfl (any_of HT_.out (by kernel_rfl)) (fun _ _ _ h => h) (Or.inl ⟨by rfl, ?_⟩) ?_ ?_
          rotate_left; (intro w'; go_simp; with_reducible rfl)
          rotate_left; (simp only [Act.put, List.setIfInBounds_toArray, List.set_cons_zero, List.set_cons_succ, i64_w, i32_w]; rfl)
          refine pure_ (i := 37) (N := (some 162)) (v := ?_) (a' := ?_) #[true, true, true, true, true, true, true, true, true, true, true, true, true, true, true, true, true, true, true, true, true, true, true, true, true, true, true, true, true, true, true, true, true, true, true, true, true, true, false, false, false, false, false, false, false, false, false, false, false, false, false, false] rfl rfl (any_of HT_.out (by kernel_rfl)) (fun _ _ _ h => h) (Or.inl ⟨by rfl, ?_⟩) ?_ ?_
          rotate_left; (intro w'; go_simp; with_reducible rfl)
          rotate_left; (simp only [Act.put, List.setIfInBounds_toArray, List.set_cons_zero, List.set_cons_succ, i64_w, i32_w]; rfl)
          refine pure_ (i := 38) (N := (some 163)) (v := ?_) (a' := ?_) #[true, true, true, true, true, true, true, true, true, true, true, true, true, true, true, true, true, true, true, true, true, true, true, true, true, true, true, true, true, true, true, true, true, true, true, true, true, true, true, false, false, false, false, false, false, false, false, false, false, false, false, false] rfl rfl (any_of HT_.out (by kernel_rfl)) (fun _ _ _ h => h) (Or.inl ⟨by rfl, ?_⟩) ?_ ?_
          rotate_left; (intro w'; go_simp; with_reducible rfl)
          rotate_left; (simp only [Act.put, List.setIfInBounds_toArray, List.set_cons_zero, List.set_cons_succ, i64_w, i32_w]; rfl)
          refine pure_ (i := 40) (N := (some 165)) (v := ?_) (a' := ?_) #[true, true, true, true, true, true, true, true, true, true, true, true, true, true, true, true, true, true, true, true, true, true, true, true, true, true, true, true, true, true, true, true, true, true, true, true, true, true, true, false, true, false, false, false, false, false, false, false, false, false, false, false] rfl rfl (any_of HT_.out (by kernel_rfl)) (fun _ _ _ h => h) (Or.inl ⟨by rfl, ?_⟩) ?_ ?_
          rotate_left; (intro w'; go_simp; with_reducible rfl)
          rotate_left; (simp only [Act.put, List.setIfInBounds_toArray, List.set_cons_zero, List.set_cons_succ, i64_w, i32_w]; rfl)
          refine one_ (i := 39) (N := (some 164)) #[true, true, true, true, true, true, true, true, true, true, true, true, true, true, true, true, true, true, true, true, true, true, true, true, true, true, true, true, true, true, true, true, true, true, true, true, true, true, true, true, true, false, false, false, false, false, false, false, false, false, false, false] rfl rfl (one_of HT_.out (by kernel_rfl)) (by decide) (fun K hK => ?_)
          refine goes_ Try.func24 (by kernel_rfl) rfl #[.pointer (some ⟨s, 0, none⟩)] (by rfl) rfl rfl (by (try simp only [List.map_toArray, List.map_cons, List.map_nil]); first | done | rfl) ?_
          refine (p_words (HT.out.below HBB.out)).mono ?_
          rintro e x39 ⟨rfl, hb⟩
          refine ⟨_, rfl, ?_⟩
          have n0_ := Aside0.mk (below_step HBB.out hb)
          clear HBB hHeld hb
          have HBB := n0_
          clear n0_
          refine hK.out _ _ HBB.out (fun hHeld => ?_)
          clear hK K
          refine norm_ (a' := ?_) ?_ ?_
          rotate_left
          · show Act.put _ (some 164) _ = _
            simp only [Act.put, List.setIfInBounds_toArray, List.set_cons_zero, List.set_cons_succ, i64_w, i32_w]
            rfl
          refine one_ (i := 41) (N := (some 166)) #[true, true, true, true, true, true, true, true, true, true, true, true, true, true, true, true, true, true, true, true, true, true, true, true, true, true, true, true, true, true, true, true, true, true, true, true, true, true, true, true, true, true, false, false, false, false, false, false, false, false, false, false] rfl rfl (one_of HT_.out (by kernel_rfl)) (by decide) (fun K hK => ?_)
          refine goes_ Try.func65 (by kernel_rfl) rfl #[.pointer (some ⟨g, 0, none⟩)] (by rfl) rfl rfl (by (try simp only [List.map_toArray, List.map_cons, List.map_nil]); first | done | rfl) ?_
          refine (d_words (HT.out.below HBB.out)).mono ?_
          rintro e x41 ⟨rfl, hb⟩
          refine ⟨_, rfl, ?_⟩
          have n0_ := Aside0.mk (below_step HBB.out hb)
          clear HBB hHeld hb
          have HBB := n0_
          clear n0_
          refine hK.out _ _ HBB.out (fun hHeld => ?_)
          clear hK K
          refine norm_ (a' := ?_) ?_ ?_
          rotate_left
          · show Act.put _ (some 166) _ = _
            simp only [Act.put, List.setIfInBounds_toArray, List.set_cons_zero, List.set_cons_succ, i64_w, i32_w]
            rfl
          refine pure_ (i := 42) (N := (some 167)) (v := ?_) (a' := ?_) #[true, true, true, true, true, true, true, true, true, true, true, true, true, true, true, true, true, true, true, true, true, true, true, true, true, true, true, true, true, true, true, true, true, true, true, true, true, true, true, true, true, true, true, false, false, false, false, false, false, false, false, false] rfl rfl (any_of HT_.out (by kernel_rfl)) (fun _ _ _ h => h) (Or.inl ⟨by rfl, ?_⟩) ?_ ?_
          rotate_left; (intro w'; go_simp; with_reducible rfl)
          rotate_left; (simp only [Act.put, List.setIfInBounds_toArray, List.set_cons_zero, List.set_cons_succ, i64_w, i32_w]; rfl)
          refine pure_ (i := 43) (N := (some 168)) (v := ?_) (a' := ?_) #[true, true, true, true, true, true, true, true, true, true, true, true, true, true, true, true, true, true, true, true, true, true, true, true, true, true, true, true, true, true, true, true, true, true, true, true, true, true, true, true, true, true, true, true, false, false, false, false, false, false, false, false] rfl rfl (any_of HT_.out (by kernel_rfl)) (fun _ _ _ h => h) (Or.inl ⟨by rfl, ?_⟩) ?_ ?_
          rotate_left; (intro w'; go_simp; with_reducible rfl)
          rotate_left; (simp only [Act.put, List.setIfInBounds_toArray, List.set_cons_zero, List.set_cons_succ, i64_w, i32_w]; rfl)
          refine pure_ (i := 44) (N := (some 169)) (v := ?_) (a' := ?_) #[true, true, true, true, true, true, true, true, true, true, true, true, true, true, true, true, true, true, true, true, true, true, true, true, true, true, true, true, true, true, true, true, true, true, true, true, true, true, true, true, true, true, true, true, true, false, false, false, false, false, false, false] rfl rfl (any_of HT_.out (by kernel_rfl)) (fun _ _ _ h => h) (Or.inl ⟨by rfl, ?_⟩) ?_ ?_
          rotate_left; (intro w'; go_simp; with_reducible rfl)
          rotate_left; (simp only [Act.put, List.setIfInBounds_toArray, List.set_cons_zero, List.set_cons_succ, i64_w, i32_w]; rfl)
          refine pure_ (i := 45) (N := (some 170)) (v := ?_) (a' := ?_) #[true, true, true, true, true, true, true, true, true, true, true, true, true, true, true, true, true, true, true, true, true, true, true, true, true, true, true, true, true, true, true, true, true, true, true, true, true, true, true, true, true, true, true, true, true, true, false, false, false, false, false, false] rfl rfl (any_of HT_.out (by kernel_rfl)) (fun _ _ _ h => h) (Or.inl ⟨by rfl, ?_⟩) ?_ ?_
          rotate_left; (intro w'; go_simp; with_reducible rfl)
          rotate_left; (simp only [Act.put, List.setIfInBounds_toArray, List.set_cons_zero, List.set_cons_succ, i64_w, i32_w]; rfl)
          refine pure_ (i := 47) (N := (some 172)) (v := ?_) (a' := ?_) #[true, true, true, true, true, true, true, true, true, true, true, true, true, true, true, true, true, true, true, true, true, true, true, true, true, true, true, true, true, true, true, true, true, true, true, true, true, true, true, true, true, true, true, true, true, true, false, true, false, false, false, false] rfl rfl (any_of HT_.out (by kernel_rfl)) (fun _ _ _ h => h) (Or.inl ⟨by rfl, ?_⟩) ?_ ?_
          rotate_left; (intro w'; go_simp; with_reducible rfl)
          rotate_left; (simp only [Act.put, List.setIfInBounds_toArray, List.set_cons_zero, List.set_cons_succ, i64_w, i32_w]; rfl)
          refine one_ (i := 46) (N := (some 171)) #[true, true, true, true, true, true, true, true, true, true, true, true, true, true, true, true, true, true, true, true, true, true, true, true, true, true, true, true, true, true, true, true, true, true, true, true, true, true, true, true, true, true, true, true, true, true, true, true, false, false, false, false] rfl rfl (one_of HT_.out (by kernel_rfl)) (by decide) (fun K hK => ?_)
          refine goes_ Try.func26 (by kernel_rfl) rfl #[.pointer (some ⟨s, 0, none⟩)] (by rfl) rfl rfl (by (try simp only [List.map_toArray, List.map_cons, List.map_nil]); first | done | rfl) ?_
          refine (p_roots (HT.out.below HBB.out)).mono ?_
          rintro e x46 ⟨v46, rfl, ho, hb⟩
          refine ⟨_, rfl, ?_⟩
          obtain ⟨A46, c46, rfl, _, hr46, _⟩ := own_row ho
          have R46 := Aside0.mk hr46
          clear ho hr46
          have n0_ := Aside0.mk (below_step HBB.out hb)
          clear HBB hHeld hb
          have HBB := n0_
          clear n0_
          refine hK.out _ _ HBB.out (fun hHeld => ?_)
          clear hK K
          refine norm_ (a' := ?_) ?_ ?_
          rotate_left
          · show Act.put _ (some 171) _ = _
            simp only [Act.put, List.setIfInBounds_toArray, List.set_cons_zero, List.set_cons_succ, i64_w, i32_w]
            rfl
          refine one_ (i := 48) (N := (some 173)) #[true, true, true, true, true, true, true, true, true, true, true, true, true, true, true, true, true, true, true, true, true, true, true, true, true, true, true, true, true, true, true, true, true, true, true, true, true, true, true, true, true, true, true, true, true, true, true, true, true, false, false, false] rfl rfl (one_of HT_.out (by kernel_rfl)) (by decide) (fun K hK => ?_)
          refine goes_ Try.func66 (by kernel_rfl) rfl #[.pointer (some ⟨g, 0, none⟩)] (by rfl) rfl rfl (by (try simp only [List.map_toArray, List.map_cons, List.map_nil]); first | done | rfl) ?_
          refine (d_roots (HT.out.below HBB.out)).mono ?_
          rintro e x48 ⟨v48, rfl, ho, hb⟩
          refine ⟨_, rfl, ?_⟩
          obtain ⟨A48, c48, rfl, _, hr48, _⟩ := own_row ho
          have R48 := Aside0.mk hr48
          have R46b := Aside0.mk (ReadsInt.below R46.out hb)
          clear ho hr48 R46
          have n0_ := Aside0.mk (below_step HBB.out hb)
          clear HBB hHeld hb
          have HBB := n0_
          clear n0_
          refine hK.out _ _ HBB.out (fun hHeld => ?_)
          clear hK K
          refine norm_ (a' := ?_) ?_ ?_
          rotate_left
          · show Act.put _ (some 173) _ = _
            simp only [Act.put, List.setIfInBounds_toArray, List.set_cons_zero, List.set_cons_succ, i64_w, i32_w]
            rfl
          refine one_ (i := 49) (N := (some 174)) #[true, true, true, true, true, true, true, true, true, true, true, true, true, true, true, true, true, true, true, true, true, true, true, true, true, true, true, true, true, true, true, true, true, true, true, true, true, true, true, true, true, true, true, true, true, true, true, true, true, true, false, false] rfl rfl (one_of HT_.out (by kernel_rfl)) (by decide) (fun K hK => ?_)
          refine goes_ Try.func28 (by kernel_rfl) rfl #[.slice A46 (flatL L2).length c46, .slice A48 (flatL L2).length c48] (by rfl) rfl rfl (by (try simp only [List.map_toArray, List.map_cons, List.map_nil]); first | done | rfl) ?_
          refine ((same_calls _ _ _ _ _ _ (flatL L2) R46b.out R48.out).be).mono ?_
          rintro e x49 ⟨rfl, hb⟩
          refine ⟨_, rfl, ?_⟩
          have n0_ := Aside0.mk (below_step HBB.out hb)
          clear HBB hHeld hb
          have HBB := n0_
          clear n0_
          refine hK.out _ _ HBB.out (fun hHeld => ?_)
          clear hK K
          refine norm_ (a' := ?_) ?_ ?_
          rotate_left
          · show Act.put _ (some 174) _ = _
            simp only [Act.put, List.setIfInBounds_toArray, List.set_cons_zero, List.set_cons_succ, i64_w, i32_w]
            rfl
          refine pure_ (i := 50) (N := (some 175)) (v := ?_) (a' := ?_) #[true, true, true, true, true, true, true, true, true, true, true, true, true, true, true, true, true, true, true, true, true, true, true, true, true, true, true, true, true, true, true, true, true, true, true, true, true, true, true, true, true, true, true, true, true, true, true, true, true, true, true, false] rfl rfl (any_of HT_.out (by kernel_rfl)) (fun _ _ _ h => h) (Or.inl ⟨by rfl, ?_⟩) ?_ ?_
          rotate_left; (intro w'; go_simp; with_reducible rfl)
          rotate_left; (simp only [Act.put, List.setIfInBounds_toArray, List.set_cons_zero, List.set_cons_succ, i64_w, i32_w]; rfl)
          refine pure_ (i := 51) (N := (some 176)) (v := ?_) (a' := ?_) #[true, true, true, true, true, true, true, true, true, true, true, true, true, true, true, true, true, true, true, true, true, true, true, true, true, true, true, true, true, true, true, true, true, true, true, true, true, true, true, true, true, true, true, true, true, true, true, true, true, true, true, true] rfl rfl (any_of HT_.out (by kernel_rfl)) (fun _ _ _ h => h) (Or.inl ⟨by rfl, ?_⟩) ?_ ?_
          rotate_left; (intro w'; go_simp; with_reducible rfl)
          rotate_left; (simp only [Act.put, List.setIfInBounds_toArray, List.set_cons_zero, List.set_cons_succ, i64_w, i32_w]; rfl)
          refine done_ (done_of HT_.out (by kernel_rfl)) ?_
          go_wp2_with fail
          go_roundg (81 - (i + 1))
          case measure => omega
          case rel => exact ⟨i + 1, L2, by go_num, by omega, by omega, rfl, HL2, ⟨(HT.out.below HBB.out).two⟩, ⟨below_then HB.out HB.out.size HBB.out⟩⟩
        -- cases done
      · have b3 : (l : Int) > 100 := by omega
        have b4 : (100 : Int) < (l : Int) := by omega
        go_wp2_with fail
        refine (Go.Proofs.YthdmacdeefohkaaStkT.awake_calls _).mono ?_
        rintro e w4 ⟨rfl, hb⟩
        have HB4 := Aside0.mk hb
        clear hb
        go_wp2_with fail
        go_ret
        exact ⟨by first | rfl | (simp; done), below_then HB0.out HB0.out.size HB4.out⟩
    · have hcase : ((i : Int) < (len : Int) ∧ ¬ (i : Int) < 80) ∨ ¬ (i : Int) < (len : Int) := by omega
      clear hlt
      rcases hcase with ⟨b1, b2⟩ | b1
      all_goals
        go_wp2_with fail
        refine (Go.Proofs.YthdmacdeefohkaaStkT.awake_calls _).mono ?_
        rintro e w4 ⟨rfl, hb⟩
        have HB4 := Aside0.mk hb
        clear hb
        go_wp2_with fail
        go_ret
        exact ⟨by first | rfl | (simp; done), below_then HB.out HB.out.size HB4.out⟩
end Go.Proofs.YthdmacdeefohkaaSp
