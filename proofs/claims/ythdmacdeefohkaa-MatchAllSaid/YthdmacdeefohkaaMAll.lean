/- MatchAll: the walk. -/
import Derived.Test.YthdmacdeefohkaaMAllP
import Derived.Deep.RegionHeld3
namespace Go.Proofs.YthdmacdeefohkaaMAll
open Go.RowKit Go.Proofs.YthdmacdeefohkaaW.PrintWords Go.Proofs.YthdmacdeefohkaaW.PrintLast Go.Proofs.YthdmacdeefohkaaW.PrintMore Go.Proofs.YthdmacdeefohkaaMem Go.Proofs.YthdmacdeefohkaaLeaf Go.Proofs.YthdmacdeefohkaaBits Go.Proofs.Ythdmacdeefohkaa.PMa Go.Proofs.YthdmacdeefohkaaMTerm Go.Proofs.YthdmacdeefohkaaMVal Go.Proofs.YthdmacdeefohkaaMAllP Go.Proofs
set_option linter.unusedVariables false
set_option linter.unusedSimpArgs false
def T10 : Bool × List (List Nat × List Nat) := (true, [([], []), ([], []), ([0, 1], [0, 1]), ([2], [2]), ([3], [3]), ([3], [3]), ([3], [3]), ([4, 5, 6, 3, 3], [3, 4, 5, 6]), ([3, 7], [3, 7]), ([8, 7], [8]), ([9], [9]), ([9], [9]), ([10, 11, 9], [9, 10, 11]), ([9, 12], [9, 12]), ([13, 9], [13]), ([14], [14]), ([14], [14]), ([14], [14]), ([15, 16, 17, 14, 14], [14, 15, 16, 17]), ([14, 18], [14, 18]), ([19, 18], [19]), ([20], [20]), ([20], [20]), ([20], [20]), ([21, 22, 23, 20, 20], [20, 21, 22, 23]), ([20, 24], [20, 24]), ([25, 24], [25]), ([26], [26]), ([26], [26]), ([27, 28, 26], [26, 27, 28]), ([26, 29], [26, 29]), ([30, 26], [30]), ([31], [31]), ([31], [31]), ([31], [31]), ([32, 33, 34, 31, 31], [31, 32, 33, 34]), ([31, 35], [31, 35]), ([36, 35], [36]), ([37], [37]), ([37], [37]), ([37], [37]), ([38, 39, 40, 37, 37], [37, 38, 39, 40]), ([37, 41], [37, 41]), ([42, 41], [42]), ([43], [43]), ([44, 43, 43], [43, 44]), ([43], [43]), ([46, 45, 43], [43, 46]), ([45, 47, 43], [43, 45, 47]), ([43, 48], [43, 48]), ([49, 47], [49]), ([50], [50]), ([50], [50]), ([52, 50, 50], [50, 52]), ([50], [50]), ([54, 53, 50], [50, 54]), ([51, 53, 55, 55, 50], [50, 51, 53, 55]), ([50, 56], [50, 56]), ([57, 56], [57]), ([58, 58], [58]), ([58, 59], [58, 59]), ([60, 59, 0, 1, 2, 3, 4, 5, 6, 7, 8, 9, 10, 11, 12, 13, 14, 15, 16, 17, 18, 19, 20, 21, 22, 23, 24, 25, 26, 27, 28, 29, 30, 31, 32, 33, 34, 35, 36, 37, 38, 39, 40, 41, 42, 43, 44, 45, 46, 47, 48, 49, 50, 51, 52, 53, 54, 55, 56, 57, 58, 59, 60], [60])])
def B10 : List Nat := [0, 0, 3, 7, 15, 15, 15, 127, 255, 511, 1023, 1023, 4095, 8191, 16383, 32767, 32767, 32767, 262143, 524287, 1048575, 2097151, 2097151, 2097151, 16777215, 33554431, 67108863, 134217727, 134217727, 536870911, 1073741823, 2147483647, 4294967295, 4294967295, 4294967295, 34359738367, 68719476735, 137438953471, 274877906943, 274877906943, 274877906943, 2199023255551, 4398046511103, 8796093022207, 17592186044415, 35184372088831, 17592186044415, 140737488355327, 281474976710655, 562949953421311, 1125899906842623, 2251799813685247, 2251799813685247, 6755399441055743, 2251799813685247, 33776997205278719, 72057594037927935, 144115188075855871, 288230376151711743, 576460752303423487, 1152921504606846975, 2305843009213693951]
def fl (n : Nat) : Array Bool := ((List.range 62).map fun i => decide (i < n)).toArray
def fl2 (n j : Nat) : Array Bool := ((List.range 62).map fun i => decide (i < n) || i == j).toArray
theorem tab10 : rtab .any (opsOf Try.f7 10) = T10 := by kernel_rfl
theorem bits10 : waitsOk T10.2 B10 = true := by kernel_rfl
section
variable {P : Program} {ops : Array Oper} {Q : Exit → Act → World → Prop}
/-- A call of a function value that lies in a temporary. -/
theorem goesT_ {oi : Oper} {N : Option Tmp} {a : Act} {w : World} {K : Act → World → Prop} {f : FuncId} {fn : Func} {xs : Array Operand} {ts : Array TypeId} (hf : P.funcs[f]? = some fn) (hname : (fn.name == "runtime.NumGoroutine") = false) (hb : fn.body.isSome = true) (u : Tmp) (hv : a.eval (.tmp u) = a.eval (.func f)) (args : Array Value)
    (hw : Region.wanted oi (yielded ops a.tmps) = true) (hN : oi.dst = N) (hop : oi.op = .call { callee := .value (.tmp u), args := xs, argTypes := ts }) (hargs : xs.map a.eval = args)
    (h : Calls P f args w fun e w' => ∃ v, e = .returned v ∧ K (a.put N v) w') : if Region.wanted oi (yielded ops a.tmps) = true then Oper.wp P oi a w K Q else K (a.put N undef) w := by
  refine call_ f args hw hN ?_ h
  have he := enters_ hf hname hb args w
  unfold execOp
  simp only [hop, resolve, hv]
  simp [Deferred.ofValue, invoke, Act.eval, hargs, he]
end
set_option maxHeartbeats 16000000 in
set_option maxRecDepth 100000 in
theorem law_calls (x : S45) (A2 : Option Addr) (c2 : Nat) (A5 : Option Addr) (c5 : Nat) (n : Int) (w : World) (hx : Lies w x A2 c2 A5 c5) :
    Calls Try.prog 7 #[.agg (cellsT x A2 c2 A5 c5), .int .i64 n] w fun e w' => e = .returned (.bool true) ∧ Below w.heap.size w w' := by
  have hu45 := Try.underlying45
  have hfS := field_S
  have hf0 := field_0
  obtain ⟨W1, hW1⟩ : ∃ W1, w.alloc (.cells (cellsT x A2 c2 A5 c5) 45) = W1 := ⟨_, rfl⟩
  have B1 : Box w W1 w.heap.size x A2 c2 A5 c5 := by
    rw [← hW1]; exact ⟨heap_alloc_new _ _, hx.below (below_alloc (Below.refl _ _) _), below_alloc (Below.refl _ _) _⟩
  obtain ⟨g, hg⟩ : ∃ g, w.heap.size = g := ⟨_, rfl⟩
  obtain ⟨kL, rL, hL⟩ := Light_total 100 (by omega) x
  have HB := Aside0.mk B1
  have HCL := Aside0.mk (relictlaw00_Light.calls kL x.f0 x.f1.f0 A2 c2 x.f1.f1 x.f2 x.f3 A5 c5 x.f4 100 rL W1 B1.2.1.1 B1.2.1.2.1 B1.2.1.2.2.1 B1.2.1.2.2.2 hL)
  have HLL := Aside0.mk hL
  rw [hg] at HB B1
  obtain ⟨b0, b1, b2, b3, b4, b5⟩ := B1.cells
  clear B1 hx hL
  unfold cellsT at hW1 ⊢
  go_enter Try.func7, Try.ntmps7
  go_wp2_with fail
  refine HCL.out.mono ?_
  rintro e w2 ⟨rfl, hb⟩
  have B2 := HB.out.below hb
  clear b0 b1 b2 b3 b4 b5
  obtain ⟨b0, b1, b2, b3, b4, b5⟩ := B2.cells
  have BX2 := Aside0.mk B2
  have HA := Aside0.mk (awake_own w2)
  clear B2 hb HB HCL hW1
  cases rL with
  | false =>
    go_wp2_with fail
    refine HA.out.mono ?_
    rintro e w3 ⟨rfl, hb⟩
    have HB3 := Aside0.mk (below_step BX2.out.2.2 hb)
    clear hb
    go_wp2_with fail
    go_ret
    exact ⟨rfl, HB3.out⟩
  | true =>
    obtain ⟨hsz, kT, kids', hT⟩ := light_size kL x HLL.out
    have hsz : x.f2.size ≤ 1000000 := by omega
    obtain ⟨PS, bS, hP4, hPl, hS1, hS2⟩ := start_both x ⟨x.f0, ⟨x.f1.f0, x.f1.f1⟩, x.f2, x.f3, kids'⟩ ⟨rfl, rfl, rfl⟩
    obtain ⟨PN, QN, bN, kN, hN1, hN2, hN3, hN4, hN5, hN6⟩ := number_both x ⟨x.f0, ⟨x.f1.f0, x.f1.f1⟩, x.f2, x.f3, kids'⟩ ⟨rfl, rfl, rfl⟩ hsz n
    obtain ⟨PB, QB, bB, kB, hB1, hB2, hB3, hB4, hB5, hB6⟩ := bytes_both x ⟨x.f0, ⟨x.f1.f0, x.f1.f1⟩, x.f2, x.f3, kids'⟩ ⟨rfl, rfl, rfl⟩ hsz n
    obtain ⟨vL, hL1, hL2⟩ := left_both x hsz
    obtain ⟨PR, hR4, hRl, hR1, hR2⟩ := rest_both x
    have HT := Aside0.mk hT
    have HS1 := Aside0.mk hS1
    have HS2 := Aside0.mk hS2
    have HN5 := Aside0.mk hN5
    have HN6 := Aside0.mk hN6
    have HB5 := Aside0.mk hB5
    have HB6 := Aside0.mk hB6
    have HLF := Aside0.mk (And.intro hL1 hL2)
    have HRF := Aside0.mk (And.intro hR1 hR2)
    have HLEN := Aside0.mk (And.intro hPl (And.intro hN3 (And.intro hN4 (And.intro hB3 (And.intro hB4 hRl)))))
    clear hT hS1 hS2 hN1 hN2 hN3 hN4 hN5 hN6 hB1 hB2 hB3 hB4 hB5 hB6 hL1 hL2 hR1 hR2 hR4 hRl hP4 hPl hsz HA HLL
    have HC2 := Aside0.mk (relictlaw00_Term.calls kT x.f0 x.f1.f0 A2 c2 x.f1.f1 x.f2 x.f3 A5 c5 x.f4 _ _ _ _ _ _ w2 BX2.out.2.1.1 BX2.out.2.1.2.1 BX2.out.2.1.2.2.1 BX2.out.2.1.2.2.2 HT.out)
    go_wp2_with fail
    refine HC2.out.mono ?_
    rintro e w3 ⟨v2, v5, rfl, q2, q5, hb⟩
    obtain ⟨Y2_2, y2_2, rfl⟩ := Kd.R_slice q2
    obtain ⟨Y5_2, y5_2, rfl⟩ := Kd.R_slice q5
    have LY := Aside0.mk (lies_of (a := x.f0) (b := x.f1.f0) (s := x.f2) (N := x.f3) q2 q5)
    have BX3 := Aside0.mk (BX2.out.below hb)
    clear hb q2 q5 HC2 BX2 b0 b1 b2 b3 b4 b5
    go_wp2_with fail
    refine (Aside0.mk (match_Start.calls x.f0 x.f1.f0 Y2_2 y2_2 x.f1.f1 x.f2 x.f3 Y5_2 y5_2 kids' _ _ _ _ _ _ _ w3 LY.out.1 LY.out.2.1 LY.out.2.2.1 LY.out.2.2.2 HS1.out)).out.mono ?_
    rintro e w4 ⟨v2, v5, rfl, q2, q5, hb⟩
    obtain ⟨D2_3, d2_3, rfl⟩ := Kd.R_slice q2
    obtain ⟨D5_3, d5_3, rfl⟩ := Kd.R_slice q5
    obtain ⟨W5, hW5⟩ : ∃ W5, w4.alloc (.cells #[.int .i64 PS.f0, .bool PS.f1.f0, .slice D2_3 PS.f1.f1.length d2_3, .string PS.f2, .int .i64 PS.f3, .slice D5_3 0 d5_3] 45) = W5 := ⟨_, rfl⟩
    obtain ⟨g5, hg5⟩ : ∃ g5, w4.heap.size = g5 := ⟨_, rfl⟩
    have hbW : Below w4.heap.size w4 W5 := by rw [← hW5]; exact below_alloc (Below.refl _ _) _
    have BA5 := Aside0.mk (show Box w W5 g5 ⟨PS.f0, ⟨PS.f1.f0, PS.f1.f1⟩, PS.f2, PS.f3, []⟩ D2_3 d2_3 D5_3 d5_3 from by rw [← hW5, ← hg5]; exact box1 (below_step BX3.out.2.2 hb) (lies_of (a := PS.f0) (b := PS.f1.f0) (s := PS.f2) (N := PS.f3) q2 q5))
    have BX5 := Aside0.mk ((BX3.out.below hb).below hbW)
    clear hb hbW q2 q5 BX3 LY
    obtain ⟨b0, b1, b2, b3, b4, b5⟩ := BX5.out.cells
    go_wp2_with fail
    refine (Aside0.mk (relictref20_Start.calls x.f0 x.f1.f0 A2 c2 x.f1.f1 x.f2 x.f3 A5 c5 x.f4 _ _ _ _ _ _ _ W5 BX5.out.2.1.1 BX5.out.2.1.2.1 BX5.out.2.1.2.2.1 BX5.out.2.1.2.2.2 HS2.out)).out.mono ?_
    rintro e w6 ⟨v2, v5, rfl, q2, q5, hb⟩
    obtain ⟨D2_5, d2_5, rfl⟩ := Kd.R_slice q2
    obtain ⟨D5_5, d5_5, rfl⟩ := Kd.R_slice q5
    obtain ⟨W7, hW7⟩ : ∃ W7, w6.alloc (.cells #[.int .i64 PS.f0, .bool PS.f1.f0, .slice D2_5 PS.f1.f1.length d2_5, .string PS.f2, .int .i64 PS.f3, .slice D5_5 0 d5_5] 45) = W7 := ⟨_, rfl⟩
    obtain ⟨g7, hg7⟩ : ∃ g7, w6.heap.size = g7 := ⟨_, rfl⟩
    have hbW : Below w6.heap.size w6 W7 := by rw [← hW7]; exact below_alloc (Below.refl _ _) _
    have BB_7 := Aside0.mk (show Box w W7 g7 ⟨PS.f0, ⟨PS.f1.f0, PS.f1.f1⟩, PS.f2, PS.f3, []⟩ D2_5 d2_5 D5_5 d5_5 from by rw [← hW7, ← hg7]; exact box1 (below_step BX5.out.2.2 hb) (lies_of (a := PS.f0) (b := PS.f1.f0) (s := PS.f2) (N := PS.f3) q2 q5))
    have BX7 := Aside0.mk ((BX5.out.below hb).below hbW)
    have BA7 := Aside0.mk ((BA5.out.below hb).below hbW)
    clear hb hbW q2 q5 BX5 BA5 b0 b1 b2 b3 b4 b5 hW5 hg5
    obtain ⟨b0, b1, b2, b3, b4, b5⟩ := BX7.out.cells
    have HC7 := Aside0.mk (relictlaw00_Term.calls kT x.f0 x.f1.f0 A2 c2 x.f1.f1 x.f2 x.f3 A5 c5 x.f4 _ _ _ _ _ _ W7 BX7.out.2.1.1 BX7.out.2.1.2.1 BX7.out.2.1.2.2.1 BX7.out.2.1.2.2.2 HT.out)
    go_wp2_with fail
    refine HC7.out.mono ?_
    rintro e w8 ⟨v2, v5, rfl, q2, q5, hb⟩
    obtain ⟨Y2_7, y2_7, rfl⟩ := Kd.R_slice q2
    obtain ⟨Y5_7, y5_7, rfl⟩ := Kd.R_slice q5
    have LY := Aside0.mk (lies_of (a := x.f0) (b := x.f1.f0) (s := x.f2) (N := x.f3) q2 q5)
    have BX8 := Aside0.mk (BX7.out.below hb)
    have BA8 := Aside0.mk (BA7.out.below hb)
    have BB_8 := Aside0.mk (BB_7.out.below hb)
    clear hb q2 q5 HC7 BX7 BA7 BB_7 b0 b1 b2 b3 b4 b5
    go_wp2_with fail
    refine (Aside0.mk (match_Number.calls kN x.f0 x.f1.f0 Y2_7 y2_7 x.f1.f1 x.f2 x.f3 Y5_7 y5_7 kids' n _ _ _ _ _ _ _ _ _ _ _ _ _ w8 LY.out.1 LY.out.2.1 LY.out.2.2.1 LY.out.2.2.2 HN5.out)).out.mono ?_
    rintro e w9 ⟨v2, v5, v8, v11, rfl, q2, q5, q8, q11, hb⟩
    obtain ⟨D2_8, d2_8, rfl⟩ := Kd.R_slice q2
    obtain ⟨D5_8, d5_8, rfl⟩ := Kd.R_slice q5
    obtain ⟨D8_8, d8_8, rfl⟩ := Kd.R_slice q8
    obtain ⟨D11_8, d11_8, rfl⟩ := Kd.R_slice q11
    obtain ⟨W10, hW10⟩ : ∃ W10, (w9.alloc (.cells #[.int .i64 PN.f0, .bool PN.f1.f0, .slice D2_8 PN.f1.f1.length d2_8, .string PN.f2, .int .i64 PN.f3, .slice D5_8 0 d5_8] 45)).alloc (.cells #[.int .i64 QN.f0, .bool QN.f1.f0, .slice D8_8 QN.f1.f1.length d8_8, .string QN.f2, .int .i64 QN.f3, .slice D11_8 0 d11_8] 45) = W10 := ⟨_, rfl⟩
    obtain ⟨g10, hg10⟩ : ∃ g10, w9.heap.size = g10 := ⟨_, rfl⟩
    have hbW : Below w9.heap.size w9 W10 := by rw [← hW10]; exact below_alloc (below_alloc (Below.refl _ _) _) _
    have BB := box2 (below_step BX8.out.2.2 hb) (lies_of (a := PN.f0) (b := PN.f1.f0) (s := PN.f2) (N := PN.f3) q2 q5) (lies_of (a := QN.f0) (b := QN.f1.f0) (s := QN.f2) (N := QN.f3) q8 q11)
    have BP10 := Aside0.mk (show Box w W10 g10 ⟨PN.f0, ⟨PN.f1.f0, PN.f1.f1⟩, PN.f2, PN.f3, []⟩ D2_8 d2_8 D5_8 d5_8 from by rw [← hW10, ← hg10]; exact BB.1)
    have BQ10 := Aside0.mk (show Box w W10 (g10 + 1) ⟨QN.f0, ⟨QN.f1.f0, QN.f1.f1⟩, QN.f2, QN.f3, []⟩ D8_8 d8_8 D11_8 d11_8 from by rw [← hW10, ← hg10]; exact BB.2)
    have BX10 := Aside0.mk ((BX8.out.below hb).below hbW)
    have BA10 := Aside0.mk ((BA8.out.below hb).below hbW)
    have BB_10 := Aside0.mk ((BB_8.out.below hb).below hbW)
    clear hb hbW BB q2 q5 q8 q11 BX8 BA8 BB_8 LY hW7 hg7
    obtain ⟨b0, b1, b2, b3, b4, b5⟩ := BX10.out.cells
    go_wp2_with fail
    refine (Aside0.mk (relictref20_Number.calls kN x.f0 x.f1.f0 A2 c2 x.f1.f1 x.f2 x.f3 A5 c5 x.f4 n _ _ _ _ _ _ _ _ _ _ _ _ _ W10 BX10.out.2.1.1 BX10.out.2.1.2.1 BX10.out.2.1.2.2.1 BX10.out.2.1.2.2.2 HN6.out)).out.mono ?_
    rintro e w11 ⟨v2, v5, v8, v11, rfl, q2, q5, q8, q11, hb⟩
    obtain ⟨D2_10, d2_10, rfl⟩ := Kd.R_slice q2
    obtain ⟨D5_10, d5_10, rfl⟩ := Kd.R_slice q5
    obtain ⟨D8_10, d8_10, rfl⟩ := Kd.R_slice q8
    obtain ⟨D11_10, d11_10, rfl⟩ := Kd.R_slice q11
    obtain ⟨W12, hW12⟩ : ∃ W12, (w11.alloc (.cells #[.int .i64 PN.f0, .bool PN.f1.f0, .slice D2_10 PN.f1.f1.length d2_10, .string PN.f2, .int .i64 PN.f3, .slice D5_10 0 d5_10] 45)).alloc (.cells #[.int .i64 QN.f0, .bool QN.f1.f0, .slice D8_10 QN.f1.f1.length d8_10, .string QN.f2, .int .i64 QN.f3, .slice D11_10 0 d11_10] 45) = W12 := ⟨_, rfl⟩
    obtain ⟨g12, hg12⟩ : ∃ g12, w11.heap.size = g12 := ⟨_, rfl⟩
    have hbW : Below w11.heap.size w11 W12 := by rw [← hW12]; exact below_alloc (below_alloc (Below.refl _ _) _) _
    have BB := box2 (below_step BX10.out.2.2 hb) (lies_of (a := PN.f0) (b := PN.f1.f0) (s := PN.f2) (N := PN.f3) q2 q5) (lies_of (a := QN.f0) (b := QN.f1.f0) (s := QN.f2) (N := QN.f3) q8 q11)
    have BR12 := Aside0.mk (show Box w W12 g12 ⟨PN.f0, ⟨PN.f1.f0, PN.f1.f1⟩, PN.f2, PN.f3, []⟩ D2_10 d2_10 D5_10 d5_10 from by rw [← hW12, ← hg12]; exact BB.1)
    have BS12 := Aside0.mk (show Box w W12 (g12 + 1) ⟨QN.f0, ⟨QN.f1.f0, QN.f1.f1⟩, QN.f2, QN.f3, []⟩ D8_10 d8_10 D11_10 d11_10 from by rw [← hW12, ← hg12]; exact BB.2)
    have BX12 := Aside0.mk ((BX10.out.below hb).below hbW)
    have BA12 := Aside0.mk ((BA10.out.below hb).below hbW)
    have BB_12 := Aside0.mk ((BB_10.out.below hb).below hbW)
    have BP12 := Aside0.mk ((BP10.out.below hb).below hbW)
    have BQ12 := Aside0.mk ((BQ10.out.below hb).below hbW)
    clear hb hbW BB q2 q5 q8 q11 BX10 BA10 BB_10 BP10 BQ10 b0 b1 b2 b3 b4 b5 hW10 hg10
    obtain ⟨b0, b1, b2, b3, b4, b5⟩ := BX12.out.cells
    have HC12 := Aside0.mk (relictlaw00_Term.calls kT x.f0 x.f1.f0 A2 c2 x.f1.f1 x.f2 x.f3 A5 c5 x.f4 _ _ _ _ _ _ W12 BX12.out.2.1.1 BX12.out.2.1.2.1 BX12.out.2.1.2.2.1 BX12.out.2.1.2.2.2 HT.out)
    go_wp2_with fail
    refine HC12.out.mono ?_
    rintro e w13 ⟨v2, v5, rfl, q2, q5, hb⟩
    obtain ⟨Y2_12, y2_12, rfl⟩ := Kd.R_slice q2
    obtain ⟨Y5_12, y5_12, rfl⟩ := Kd.R_slice q5
    have LY := Aside0.mk (lies_of (a := x.f0) (b := x.f1.f0) (s := x.f2) (N := x.f3) q2 q5)
    have BX13 := Aside0.mk (BX12.out.below hb)
    have BA13 := Aside0.mk (BA12.out.below hb)
    have BB_13 := Aside0.mk (BB_12.out.below hb)
    have BP13 := Aside0.mk (BP12.out.below hb)
    have BQ13 := Aside0.mk (BQ12.out.below hb)
    have BR13 := Aside0.mk (BR12.out.below hb)
    have BS13 := Aside0.mk (BS12.out.below hb)
    clear hb q2 q5 HC12 BX12 BA12 BB_12 BP12 BQ12 BR12 BS12 b0 b1 b2 b3 b4 b5
    go_wp2_with fail
    refine (Aside0.mk (match_Bytes.calls kB x.f0 x.f1.f0 Y2_12 y2_12 x.f1.f1 x.f2 x.f3 Y5_12 y5_12 kids' n _ _ _ _ _ _ _ _ _ _ _ _ _ w13 LY.out.1 LY.out.2.1 LY.out.2.2.1 LY.out.2.2.2 HB5.out)).out.mono ?_
    rintro e w14 ⟨v2, v5, v8, v11, rfl, q2, q5, q8, q11, hb⟩
    obtain ⟨D2_13, d2_13, rfl⟩ := Kd.R_slice q2
    obtain ⟨D5_13, d5_13, rfl⟩ := Kd.R_slice q5
    obtain ⟨D8_13, d8_13, rfl⟩ := Kd.R_slice q8
    obtain ⟨D11_13, d11_13, rfl⟩ := Kd.R_slice q11
    obtain ⟨W15, hW15⟩ : ∃ W15, (w14.alloc (.cells #[.int .i64 PB.f0, .bool PB.f1.f0, .slice D2_13 PB.f1.f1.length d2_13, .string PB.f2, .int .i64 PB.f3, .slice D5_13 0 d5_13] 45)).alloc (.cells #[.int .i64 QB.f0, .bool QB.f1.f0, .slice D8_13 QB.f1.f1.length d8_13, .string QB.f2, .int .i64 QB.f3, .slice D11_13 0 d11_13] 45) = W15 := ⟨_, rfl⟩
    obtain ⟨g15, hg15⟩ : ∃ g15, w14.heap.size = g15 := ⟨_, rfl⟩
    have hbW : Below w14.heap.size w14 W15 := by rw [← hW15]; exact below_alloc (below_alloc (Below.refl _ _) _) _
    have BB := box2 (below_step BX13.out.2.2 hb) (lies_of (a := PB.f0) (b := PB.f1.f0) (s := PB.f2) (N := PB.f3) q2 q5) (lies_of (a := QB.f0) (b := QB.f1.f0) (s := QB.f2) (N := QB.f3) q8 q11)
    have BU15 := Aside0.mk (show Box w W15 g15 ⟨PB.f0, ⟨PB.f1.f0, PB.f1.f1⟩, PB.f2, PB.f3, []⟩ D2_13 d2_13 D5_13 d5_13 from by rw [← hW15, ← hg15]; exact BB.1)
    have BV15 := Aside0.mk (show Box w W15 (g15 + 1) ⟨QB.f0, ⟨QB.f1.f0, QB.f1.f1⟩, QB.f2, QB.f3, []⟩ D8_13 d8_13 D11_13 d11_13 from by rw [← hW15, ← hg15]; exact BB.2)
    have BX15 := Aside0.mk ((BX13.out.below hb).below hbW)
    have BA15 := Aside0.mk ((BA13.out.below hb).below hbW)
    have BB_15 := Aside0.mk ((BB_13.out.below hb).below hbW)
    have BP15 := Aside0.mk ((BP13.out.below hb).below hbW)
    have BQ15 := Aside0.mk ((BQ13.out.below hb).below hbW)
    have BR15 := Aside0.mk ((BR13.out.below hb).below hbW)
    have BS15 := Aside0.mk ((BS13.out.below hb).below hbW)
    clear hb hbW BB q2 q5 q8 q11 BX13 BA13 BB_13 BP13 BQ13 BR13 BS13 LY hW12 hg12
    obtain ⟨b0, b1, b2, b3, b4, b5⟩ := BX15.out.cells
    go_wp2_with fail
    refine (Aside0.mk (relictref20_Bytes.calls kB x.f0 x.f1.f0 A2 c2 x.f1.f1 x.f2 x.f3 A5 c5 x.f4 n _ _ _ _ _ _ _ _ _ _ _ _ _ W15 BX15.out.2.1.1 BX15.out.2.1.2.1 BX15.out.2.1.2.2.1 BX15.out.2.1.2.2.2 HB6.out)).out.mono ?_
    rintro e w16 ⟨v2, v5, v8, v11, rfl, q2, q5, q8, q11, hb⟩
    obtain ⟨D2_15, d2_15, rfl⟩ := Kd.R_slice q2
    obtain ⟨D5_15, d5_15, rfl⟩ := Kd.R_slice q5
    obtain ⟨D8_15, d8_15, rfl⟩ := Kd.R_slice q8
    obtain ⟨D11_15, d11_15, rfl⟩ := Kd.R_slice q11
    obtain ⟨W17, hW17⟩ : ∃ W17, (w16.alloc (.cells #[.int .i64 PB.f0, .bool PB.f1.f0, .slice D2_15 PB.f1.f1.length d2_15, .string PB.f2, .int .i64 PB.f3, .slice D5_15 0 d5_15] 45)).alloc (.cells #[.int .i64 QB.f0, .bool QB.f1.f0, .slice D8_15 QB.f1.f1.length d8_15, .string QB.f2, .int .i64 QB.f3, .slice D11_15 0 d11_15] 45) = W17 := ⟨_, rfl⟩
    obtain ⟨g17, hg17⟩ : ∃ g17, w16.heap.size = g17 := ⟨_, rfl⟩
    have hbW : Below w16.heap.size w16 W17 := by rw [← hW17]; exact below_alloc (below_alloc (Below.refl _ _) _) _
    have BB := box2 (below_step BX15.out.2.2 hb) (lies_of (a := PB.f0) (b := PB.f1.f0) (s := PB.f2) (N := PB.f3) q2 q5) (lies_of (a := QB.f0) (b := QB.f1.f0) (s := QB.f2) (N := QB.f3) q8 q11)
    have BY17 := Aside0.mk (show Box w W17 g17 ⟨PB.f0, ⟨PB.f1.f0, PB.f1.f1⟩, PB.f2, PB.f3, []⟩ D2_15 d2_15 D5_15 d5_15 from by rw [← hW17, ← hg17]; exact BB.1)
    have BZ17 := Aside0.mk (show Box w W17 (g17 + 1) ⟨QB.f0, ⟨QB.f1.f0, QB.f1.f1⟩, QB.f2, QB.f3, []⟩ D8_15 d8_15 D11_15 d11_15 from by rw [← hW17, ← hg17]; exact BB.2)
    have BX17 := Aside0.mk ((BX15.out.below hb).below hbW)
    have BA17 := Aside0.mk ((BA15.out.below hb).below hbW)
    have BB_17 := Aside0.mk ((BB_15.out.below hb).below hbW)
    have BP17 := Aside0.mk ((BP15.out.below hb).below hbW)
    have BQ17 := Aside0.mk ((BQ15.out.below hb).below hbW)
    have BR17 := Aside0.mk ((BR15.out.below hb).below hbW)
    have BS17 := Aside0.mk ((BS15.out.below hb).below hbW)
    have BU17 := Aside0.mk ((BU15.out.below hb).below hbW)
    have BV17 := Aside0.mk ((BV15.out.below hb).below hbW)
    clear hb hbW BB q2 q5 q8 q11 BX15 BA15 BB_15 BP15 BQ15 BR15 BS15 BU15 BV15 b0 b1 b2 b3 b4 b5 hW15 hg15
    have HM1 := Aside0.mk (fun (W : World) (hb : Below W17.heap.size W17 W) => relictlaw00_SameTerm.calls 10 PS.f0 PS.f1.f0 D2_3 d2_3 PS.f1.f1 PS.f2 PS.f3 D5_3 d5_3 [] PS.f0 PS.f1.f0 D2_5 d2_5 PS.f1.f1 PS.f2 PS.f3 D5_5 d5_5 [] true W (BA17.out.below hb).2.1.1 (BA17.out.below hb).2.1.2.1 (BA17.out.below hb).2.1.2.2.1 (BA17.out.below hb).2.1.2.2.2 (BB_17.out.below hb).2.1.1 (BB_17.out.below hb).2.1.2.1 (BB_17.out.below hb).2.1.2.2.1 (BB_17.out.below hb).2.1.2.2.2 (same_self _ _ _ HLEN.out.1 _ _))
    have HM2 := Aside0.mk (fun (W : World) (hb : Below W17.heap.size W17 W) => relictlaw00_SameTerm.calls 10 PN.f0 PN.f1.f0 D2_8 d2_8 PN.f1.f1 PN.f2 PN.f3 D5_8 d5_8 [] PN.f0 PN.f1.f0 D2_10 d2_10 PN.f1.f1 PN.f2 PN.f3 D5_10 d5_10 [] true W (BP17.out.below hb).2.1.1 (BP17.out.below hb).2.1.2.1 (BP17.out.below hb).2.1.2.2.1 (BP17.out.below hb).2.1.2.2.2 (BR17.out.below hb).2.1.1 (BR17.out.below hb).2.1.2.1 (BR17.out.below hb).2.1.2.2.1 (BR17.out.below hb).2.1.2.2.2 (same_self _ _ _ HLEN.out.2.1 _ _))
    have HM3 := Aside0.mk (fun (W : World) (hb : Below W17.heap.size W17 W) => relictlaw00_SameTerm.calls 10 QN.f0 QN.f1.f0 D8_8 d8_8 QN.f1.f1 QN.f2 QN.f3 D11_8 d11_8 [] QN.f0 QN.f1.f0 D8_10 d8_10 QN.f1.f1 QN.f2 QN.f3 D11_10 d11_10 [] true W (BQ17.out.below hb).2.1.1 (BQ17.out.below hb).2.1.2.1 (BQ17.out.below hb).2.1.2.2.1 (BQ17.out.below hb).2.1.2.2.2 (BS17.out.below hb).2.1.1 (BS17.out.below hb).2.1.2.1 (BS17.out.below hb).2.1.2.2.1 (BS17.out.below hb).2.1.2.2.2 (same_self _ _ _ HLEN.out.2.2.1 _ _))
    have HM4 := Aside0.mk (fun (W : World) (hb : Below W17.heap.size W17 W) => relictlaw00_SameTerm.calls 10 PB.f0 PB.f1.f0 D2_13 d2_13 PB.f1.f1 PB.f2 PB.f3 D5_13 d5_13 [] PB.f0 PB.f1.f0 D2_15 d2_15 PB.f1.f1 PB.f2 PB.f3 D5_15 d5_15 [] true W (BU17.out.below hb).2.1.1 (BU17.out.below hb).2.1.2.1 (BU17.out.below hb).2.1.2.2.1 (BU17.out.below hb).2.1.2.2.2 (BY17.out.below hb).2.1.1 (BY17.out.below hb).2.1.2.1 (BY17.out.below hb).2.1.2.2.1 (BY17.out.below hb).2.1.2.2.2 (same_self _ _ _ HLEN.out.2.2.2.1 _ _))
    have HM5 := Aside0.mk (fun (W : World) (hb : Below W17.heap.size W17 W) => relictlaw00_SameTerm.calls 10 QB.f0 QB.f1.f0 D8_13 d8_13 QB.f1.f1 QB.f2 QB.f3 D11_13 d11_13 [] QB.f0 QB.f1.f0 D8_15 d8_15 QB.f1.f1 QB.f2 QB.f3 D11_15 d11_15 [] true W (BV17.out.below hb).2.1.1 (BV17.out.below hb).2.1.2.1 (BV17.out.below hb).2.1.2.2.1 (BV17.out.below hb).2.1.2.2.2 (BZ17.out.below hb).2.1.1 (BZ17.out.below hb).2.1.2.1 (BZ17.out.below hb).2.1.2.2.1 (BZ17.out.below hb).2.1.2.2.2 (same_self _ _ _ HLEN.out.2.2.2.2.1 _ _))
    have HM6 := Aside0.mk (fun (W : World) (hb : Below W17.heap.size W17 W) => match_Left.calls x.f0 x.f1.f0 A2 c2 x.f1.f1 x.f2 x.f3 A5 c5 x.f4 vL W (BX17.out.below hb).2.1.1 (BX17.out.below hb).2.1.2.1 (BX17.out.below hb).2.1.2.2.1 (BX17.out.below hb).2.1.2.2.2 HLF.out.1)
    have HM7 := Aside0.mk (fun (W : World) (hb : Below W17.heap.size W17 W) => relictref20_Left.calls x.f0 x.f1.f0 A2 c2 x.f1.f1 x.f2 x.f3 A5 c5 x.f4 vL W (BX17.out.below hb).2.1.1 (BX17.out.below hb).2.1.2.1 (BX17.out.below hb).2.1.2.2.1 (BX17.out.below hb).2.1.2.2.2 HLF.out.2)
    have HM8 := Aside0.mk (fun (W : World) (hb : Below W17.heap.size W17 W) => match_Rest.calls x.f0 x.f1.f0 A2 c2 x.f1.f1 x.f2 x.f3 A5 c5 x.f4 _ _ _ _ _ _ W (BX17.out.below hb).2.1.1 (BX17.out.below hb).2.1.2.1 (BX17.out.below hb).2.1.2.2.1 (BX17.out.below hb).2.1.2.2.2 HRF.out.1)
    have HM9 := Aside0.mk (fun (W : World) (hb : Below W17.heap.size W17 W) => relictref20_Rest.calls x.f0 x.f1.f0 A2 c2 x.f1.f1 x.f2 x.f3 A5 c5 x.f4 _ _ _ _ _ _ W (BX17.out.below hb).2.1.1 (BX17.out.below hb).2.1.2.1 (BX17.out.below hb).2.1.2.2.1 (BX17.out.below hb).2.1.2.2.2 HRF.out.2)
    go_wp2_with fail
    have HBB := Aside0.mk (below_drew (Below.refl W17.heap.size W17))
    clear hW17 hg17
    refine start_ (n := 62) (S := fun w' => Below W17.heap.size W17 w') (ds := []) #[false, false, false, false, false, false, false, false, false, false, false, false, false, false, false, false, false, false, false, false, false, false, false, false, false, false, false, false, false, false, false, false, false, false, false, false, false, false, false, false, false, false, false, false, false, false, false, false, false, false, false, false, false, false, false, false, false, false, false, false, false, false] (by kernel_rfl) rfl rfl HBB.out (fun hHeld => ?_); refine with_tabW tab10 bits10 (fun HT_ HW_ => ?_)
    generalize W17.drew = wd at HBB hHeld ⊢
    refine pure_ (i := 0) (N := some 67) (v := ?_) (a' := ?_) (fl 1) rfl rfl (any_of HT_.out (by kernel_rfl)) (fun _ _ _ h => h) (Or.inl ⟨by rfl, ?_⟩) ?_ ?_
    rotate_left; (intro w'; go_simp; with_reducible rfl)
    rotate_left; (simp only [Act.put, List.setIfInBounds_toArray, List.set_cons_zero, List.set_cons_succ]; rfl)
    refine pure_ (i := 1) (N := some 68) (v := ?_) (a' := ?_) (fl 2) rfl rfl (any_of HT_.out (by kernel_rfl)) (fun _ _ _ h => h) (Or.inl ⟨by rfl, ?_⟩) ?_ ?_
    rotate_left; (intro w'; go_simp; with_reducible rfl)
    rotate_left; (simp only [Act.put, List.setIfInBounds_toArray, List.set_cons_zero, List.set_cons_succ]; rfl)
    refine pure_ (i := 2) (N := some 69) (v := ?_) (a' := ?_) (fl 3) rfl rfl (any_of HT_.out (by kernel_rfl)) (fun _ _ _ h => h) (Or.inl ⟨by rfl, ?_⟩) ?_ ?_
    rotate_left; (intro w'; go_simp; with_reducible rfl)
    rotate_left; (simp only [Act.put, List.setIfInBounds_toArray, List.set_cons_zero, List.set_cons_succ]; rfl)
    refine pure_ (i := 3) (N := some 70) (v := ?_) (a' := ?_) (fl 4) rfl rfl (any_of HT_.out (by kernel_rfl)) (fun _ _ _ h => h) (Or.inl ⟨by rfl, ?_⟩) ?_ ?_
    rotate_left; (intro w'; go_simp; with_reducible rfl)
    rotate_left; (simp only [Act.put, List.setIfInBounds_toArray, List.set_cons_zero, List.set_cons_succ]; rfl)
    refine pure_ (i := 4) (N := some 71) (v := ?_) (a' := ?_) (fl 5) rfl rfl (any_of HT_.out (by kernel_rfl)) (fun _ _ _ h => h) (Or.inl ⟨by rfl, ?_⟩) ?_ ?_
    rotate_left; (intro w'; go_simp; with_reducible rfl)
    rotate_left; (simp only [Act.put, List.setIfInBounds_toArray, List.set_cons_zero, List.set_cons_succ]; rfl)
    refine take_ (i := 5) (N := some 72) (v := ?_) (a' := ?_) (fl 6) rfl rfl (take_ofW HT_.out HW_.out (by kernel_rfl)) (fun _ _ _ h => h) (Or.inl ⟨by rfl, ?_⟩) hHeld ?_ ?_
    rotate_left; (intro w' hs; obtain ⟨s0, s1, s2, s3, s4, s5⟩ := (BA17.out.below hs).cells; go_simp; with_reducible rfl)
    rotate_left; (simp only [Act.put, List.setIfInBounds_toArray, List.set_cons_zero, List.set_cons_succ]; rfl)
    refine take_ (i := 6) (N := some 73) (v := ?_) (a' := ?_) (fl 7) rfl rfl (take_ofW HT_.out HW_.out (by kernel_rfl)) (fun _ _ _ h => h) (Or.inl ⟨by rfl, ?_⟩) hHeld ?_ ?_
    rotate_left; (intro w' hs; obtain ⟨s0, s1, s2, s3, s4, s5⟩ := (BB_17.out.below hs).cells; go_simp; with_reducible rfl)
    rotate_left; (simp only [Act.put, List.setIfInBounds_toArray, List.set_cons_zero, List.set_cons_succ]; rfl)
    refine one_ (i := 7) (N := some 74) (fl 8) rfl rfl (one_of HT_.out (by kernel_rfl)) (by decide) (fun K hK => ?_)
    refine goesT_ Try.func33 (by kernel_rfl) rfl 71 rfl #[.agg #[.int .i64 PS.f0, .bool PS.f1.f0, .slice D2_3 PS.f1.f1.length d2_3, .string PS.f2, .int .i64 PS.f3, .slice D5_3 0 d5_3], .agg #[.int .i64 PS.f0, .bool PS.f1.f0, .slice D2_5 PS.f1.f1.length d2_5, .string PS.f2, .int .i64 PS.f3, .slice D5_5 0 d5_5]] (by rfl) rfl rfl (by (try simp only [List.map_toArray, List.map_cons, List.map_nil]); first | done | rfl) ?_
    refine (HM1.out _ HBB.out).mono ?_
    rintro e wn ⟨rfl, hb⟩
    refine ⟨_, rfl, ?_⟩
    have n0_ := Aside0.mk (below_step HBB.out hb)
    clear HBB hHeld hb
    have HBB := n0_
    clear n0_
    refine hK.out _ _ HBB.out (fun hHeld => ?_)
    clear hK K
    refine norm_ (a' := ?_) ?_ ?_
    rotate_left
    · show Act.put _ (some 74) _ = _
      simp only [Act.put, List.setIfInBounds_toArray, List.set_cons_zero, List.set_cons_succ, i64_w, i32_w]
      rfl
    refine pure_ (i := 8) (N := some 75) (v := ?_) (a' := ?_) (fl 9) rfl rfl (any_of HT_.out (by kernel_rfl)) (fun _ _ _ h => h) (Or.inl ⟨by rfl, ?_⟩) ?_ ?_
    rotate_left; (intro w'; go_simp; with_reducible rfl)
    rotate_left; (simp only [Act.put, List.setIfInBounds_toArray, List.set_cons_zero, List.set_cons_succ]; rfl)
    refine pure_ (i := 9) (N := some 76) (v := ?_) (a' := ?_) (fl 10) rfl rfl (any_of HT_.out (by kernel_rfl)) (fun _ _ _ h => h) (Or.inl ⟨by rfl, ?_⟩) ?_ ?_
    rotate_left; (intro w'; go_simp; with_reducible rfl)
    rotate_left; (simp only [Act.put, List.setIfInBounds_toArray, List.set_cons_zero, List.set_cons_succ]; rfl)
    refine pure_ (i := 10) (N := some 77) (v := ?_) (a' := ?_) (fl 11) rfl rfl (any_of HT_.out (by kernel_rfl)) (fun _ _ _ h => h) (Or.inl ⟨by rfl, ?_⟩) ?_ ?_
    rotate_left; (intro w'; go_simp; with_reducible rfl)
    rotate_left; (simp only [Act.put, List.setIfInBounds_toArray, List.set_cons_zero, List.set_cons_succ]; rfl)
    refine pure_ (i := 11) (N := some 78) (v := ?_) (a' := ?_) (fl 12) rfl rfl (any_of HT_.out (by kernel_rfl)) (fun _ _ _ h => h) (Or.inl ⟨by rfl, ?_⟩) ?_ ?_
    rotate_left; (intro w'; go_simp; with_reducible rfl)
    rotate_left; (simp only [Act.put, List.setIfInBounds_toArray, List.set_cons_zero, List.set_cons_succ]; rfl)
    refine pure_ (i := 12) (N := some 79) (v := ?_) (a' := ?_) (fl 13) rfl rfl (any_of HT_.out (by kernel_rfl)) (fun _ _ _ h => h) (Or.inl ⟨by rfl, ?_⟩) ?_ ?_
    rotate_left; (intro w'; go_simp; with_reducible rfl)
    rotate_left; (simp only [Act.put, List.setIfInBounds_toArray, List.set_cons_zero, List.set_cons_succ]; rfl)
    refine pure_ (i := 13) (N := some 80) (v := ?_) (a' := ?_) (fl 14) rfl rfl (any_of HT_.out (by kernel_rfl)) (fun _ _ _ h => h) (Or.inl ⟨by rfl, ?_⟩) ?_ ?_
    rotate_left; (intro w'; go_simp; with_reducible rfl)
    rotate_left; (simp only [Act.put, List.setIfInBounds_toArray, List.set_cons_zero, List.set_cons_succ]; rfl)
    refine pure_ (i := 14) (N := some 81) (v := ?_) (a' := ?_) (fl 15) rfl rfl (any_of HT_.out (by kernel_rfl)) (fun _ _ _ h => h) (Or.inl ⟨by rfl, ?_⟩) ?_ ?_
    rotate_left; (intro w'; go_simp; with_reducible rfl)
    rotate_left; (simp only [Act.put, List.setIfInBounds_toArray, List.set_cons_zero, List.set_cons_succ]; rfl)
    refine pure_ (i := 15) (N := some 82) (v := ?_) (a' := ?_) (fl 16) rfl rfl (any_of HT_.out (by kernel_rfl)) (fun _ _ _ h => h) (Or.inl ⟨by rfl, ?_⟩) ?_ ?_
    rotate_left; (intro w'; go_simp; with_reducible rfl)
    rotate_left; (simp only [Act.put, List.setIfInBounds_toArray, List.set_cons_zero, List.set_cons_succ]; rfl)
    refine take_ (i := 16) (N := some 83) (v := ?_) (a' := ?_) (fl 17) rfl rfl (take_ofW HT_.out HW_.out (by kernel_rfl)) (fun _ _ _ h => h) (Or.inl ⟨by rfl, ?_⟩) hHeld ?_ ?_
    rotate_left; (intro w' hs; obtain ⟨s0, s1, s2, s3, s4, s5⟩ := (BP17.out.below hs).cells; go_simp; with_reducible rfl)
    rotate_left; (simp only [Act.put, List.setIfInBounds_toArray, List.set_cons_zero, List.set_cons_succ]; rfl)
    refine take_ (i := 17) (N := some 84) (v := ?_) (a' := ?_) (fl 18) rfl rfl (take_ofW HT_.out HW_.out (by kernel_rfl)) (fun _ _ _ h => h) (Or.inl ⟨by rfl, ?_⟩) hHeld ?_ ?_
    rotate_left; (intro w' hs; obtain ⟨s0, s1, s2, s3, s4, s5⟩ := (BR17.out.below hs).cells; go_simp; with_reducible rfl)
    rotate_left; (simp only [Act.put, List.setIfInBounds_toArray, List.set_cons_zero, List.set_cons_succ]; rfl)
    refine one_ (i := 18) (N := some 85) (fl 19) rfl rfl (one_of HT_.out (by kernel_rfl)) (by decide) (fun K hK => ?_)
    refine goesT_ Try.func33 (by kernel_rfl) rfl 82 rfl #[.agg #[.int .i64 PN.f0, .bool PN.f1.f0, .slice D2_8 PN.f1.f1.length d2_8, .string PN.f2, .int .i64 PN.f3, .slice D5_8 0 d5_8], .agg #[.int .i64 PN.f0, .bool PN.f1.f0, .slice D2_10 PN.f1.f1.length d2_10, .string PN.f2, .int .i64 PN.f3, .slice D5_10 0 d5_10]] (by rfl) rfl rfl (by (try simp only [List.map_toArray, List.map_cons, List.map_nil]); first | done | rfl) ?_
    refine (HM2.out _ HBB.out).mono ?_
    rintro e wn ⟨rfl, hb⟩
    refine ⟨_, rfl, ?_⟩
    have n0_ := Aside0.mk (below_step HBB.out hb)
    clear HBB hHeld hb
    have HBB := n0_
    clear n0_
    refine hK.out _ _ HBB.out (fun hHeld => ?_)
    clear hK K
    refine norm_ (a' := ?_) ?_ ?_
    rotate_left
    · show Act.put _ (some 85) _ = _
      simp only [Act.put, List.setIfInBounds_toArray, List.set_cons_zero, List.set_cons_succ, i64_w, i32_w]
      rfl
    refine pure_ (i := 19) (N := some 86) (v := ?_) (a' := ?_) (fl 20) rfl rfl (any_of HT_.out (by kernel_rfl)) (fun _ _ _ h => h) (Or.inl ⟨by rfl, ?_⟩) ?_ ?_
    rotate_left; (intro w'; go_simp; with_reducible rfl)
    rotate_left; (simp only [Act.put, List.setIfInBounds_toArray, List.set_cons_zero, List.set_cons_succ]; rfl)
    refine pure_ (i := 20) (N := some 87) (v := ?_) (a' := ?_) (fl 21) rfl rfl (any_of HT_.out (by kernel_rfl)) (fun _ _ _ h => h) (Or.inl ⟨by rfl, ?_⟩) ?_ ?_
    rotate_left; (intro w'; go_simp; with_reducible rfl)
    rotate_left; (simp only [Act.put, List.setIfInBounds_toArray, List.set_cons_zero, List.set_cons_succ]; rfl)
    refine pure_ (i := 21) (N := some 88) (v := ?_) (a' := ?_) (fl 22) rfl rfl (any_of HT_.out (by kernel_rfl)) (fun _ _ _ h => h) (Or.inl ⟨by rfl, ?_⟩) ?_ ?_
    rotate_left; (intro w'; go_simp; with_reducible rfl)
    rotate_left; (simp only [Act.put, List.setIfInBounds_toArray, List.set_cons_zero, List.set_cons_succ]; rfl)
    refine take_ (i := 22) (N := some 89) (v := ?_) (a' := ?_) (fl 23) rfl rfl (take_ofW HT_.out HW_.out (by kernel_rfl)) (fun _ _ _ h => h) (Or.inl ⟨by rfl, ?_⟩) hHeld ?_ ?_
    rotate_left; (intro w' hs; obtain ⟨s0, s1, s2, s3, s4, s5⟩ := (BQ17.out.below hs).cells; go_simp; with_reducible rfl)
    rotate_left; (simp only [Act.put, List.setIfInBounds_toArray, List.set_cons_zero, List.set_cons_succ]; rfl)
    refine take_ (i := 23) (N := some 90) (v := ?_) (a' := ?_) (fl 24) rfl rfl (take_ofW HT_.out HW_.out (by kernel_rfl)) (fun _ _ _ h => h) (Or.inl ⟨by rfl, ?_⟩) hHeld ?_ ?_
    rotate_left; (intro w' hs; obtain ⟨s0, s1, s2, s3, s4, s5⟩ := (BS17.out.below hs).cells; go_simp; with_reducible rfl)
    rotate_left; (simp only [Act.put, List.setIfInBounds_toArray, List.set_cons_zero, List.set_cons_succ]; rfl)
    refine one_ (i := 24) (N := some 91) (fl 25) rfl rfl (one_of HT_.out (by kernel_rfl)) (by decide) (fun K hK => ?_)
    refine goesT_ Try.func33 (by kernel_rfl) rfl 88 rfl #[.agg #[.int .i64 QN.f0, .bool QN.f1.f0, .slice D8_8 QN.f1.f1.length d8_8, .string QN.f2, .int .i64 QN.f3, .slice D11_8 0 d11_8], .agg #[.int .i64 QN.f0, .bool QN.f1.f0, .slice D8_10 QN.f1.f1.length d8_10, .string QN.f2, .int .i64 QN.f3, .slice D11_10 0 d11_10]] (by rfl) rfl rfl (by (try simp only [List.map_toArray, List.map_cons, List.map_nil]); first | done | rfl) ?_
    refine (HM3.out _ HBB.out).mono ?_
    rintro e wn ⟨rfl, hb⟩
    refine ⟨_, rfl, ?_⟩
    have n0_ := Aside0.mk (below_step HBB.out hb)
    clear HBB hHeld hb
    have HBB := n0_
    clear n0_
    refine hK.out _ _ HBB.out (fun hHeld => ?_)
    clear hK K
    refine norm_ (a' := ?_) ?_ ?_
    rotate_left
    · show Act.put _ (some 91) _ = _
      simp only [Act.put, List.setIfInBounds_toArray, List.set_cons_zero, List.set_cons_succ, i64_w, i32_w]
      rfl
    refine pure_ (i := 25) (N := some 92) (v := ?_) (a' := ?_) (fl 26) rfl rfl (any_of HT_.out (by kernel_rfl)) (fun _ _ _ h => h) (Or.inl ⟨by rfl, ?_⟩) ?_ ?_
    rotate_left; (intro w'; go_simp; with_reducible rfl)
    rotate_left; (simp only [Act.put, List.setIfInBounds_toArray, List.set_cons_zero, List.set_cons_succ]; rfl)
    refine pure_ (i := 26) (N := some 93) (v := ?_) (a' := ?_) (fl 27) rfl rfl (any_of HT_.out (by kernel_rfl)) (fun _ _ _ h => h) (Or.inl ⟨by rfl, ?_⟩) ?_ ?_
    rotate_left; (intro w'; go_simp; with_reducible rfl)
    rotate_left; (simp only [Act.put, List.setIfInBounds_toArray, List.set_cons_zero, List.set_cons_succ]; rfl)
    refine pure_ (i := 27) (N := some 94) (v := ?_) (a' := ?_) (fl 28) rfl rfl (any_of HT_.out (by kernel_rfl)) (fun _ _ _ h => h) (Or.inl ⟨by rfl, ?_⟩) ?_ ?_
    rotate_left; (intro w'; go_simp; with_reducible rfl)
    rotate_left; (simp only [Act.put, List.setIfInBounds_toArray, List.set_cons_zero, List.set_cons_succ]; rfl)
    refine pure_ (i := 28) (N := some 95) (v := ?_) (a' := ?_) (fl 29) rfl rfl (any_of HT_.out (by kernel_rfl)) (fun _ _ _ h => h) (Or.inl ⟨by rfl, ?_⟩) ?_ ?_
    rotate_left; (intro w'; go_simp; with_reducible rfl)
    rotate_left; (simp only [Act.put, List.setIfInBounds_toArray, List.set_cons_zero, List.set_cons_succ]; rfl)
    refine pure_ (i := 29) (N := some 96) (v := ?_) (a' := ?_) (fl 30) rfl rfl (any_of HT_.out (by kernel_rfl)) (fun _ _ _ h => h) (Or.inl ⟨by rfl, ?_⟩) ?_ ?_
    rotate_left; (intro w'; go_simp; with_reducible rfl)
    rotate_left; (simp only [Act.put, List.setIfInBounds_toArray, List.set_cons_zero, List.set_cons_succ]; rfl)
    refine pure_ (i := 30) (N := some 97) (v := ?_) (a' := ?_) (fl 31) rfl rfl (any_of HT_.out (by kernel_rfl)) (fun _ _ _ h => h) (Or.inl ⟨by rfl, ?_⟩) ?_ ?_
    rotate_left; (intro w'; go_simp; with_reducible rfl)
    rotate_left; (simp only [Act.put, List.setIfInBounds_toArray, List.set_cons_zero, List.set_cons_succ]; rfl)
    refine pure_ (i := 31) (N := some 98) (v := ?_) (a' := ?_) (fl 32) rfl rfl (any_of HT_.out (by kernel_rfl)) (fun _ _ _ h => h) (Or.inl ⟨by rfl, ?_⟩) ?_ ?_
    rotate_left; (intro w'; go_simp; with_reducible rfl)
    rotate_left; (simp only [Act.put, List.setIfInBounds_toArray, List.set_cons_zero, List.set_cons_succ]; rfl)
    refine pure_ (i := 32) (N := some 99) (v := ?_) (a' := ?_) (fl 33) rfl rfl (any_of HT_.out (by kernel_rfl)) (fun _ _ _ h => h) (Or.inl ⟨by rfl, ?_⟩) ?_ ?_
    rotate_left; (intro w'; go_simp; with_reducible rfl)
    rotate_left; (simp only [Act.put, List.setIfInBounds_toArray, List.set_cons_zero, List.set_cons_succ]; rfl)
    refine take_ (i := 33) (N := some 100) (v := ?_) (a' := ?_) (fl 34) rfl rfl (take_ofW HT_.out HW_.out (by kernel_rfl)) (fun _ _ _ h => h) (Or.inl ⟨by rfl, ?_⟩) hHeld ?_ ?_
    rotate_left; (intro w' hs; obtain ⟨s0, s1, s2, s3, s4, s5⟩ := (BU17.out.below hs).cells; go_simp; with_reducible rfl)
    rotate_left; (simp only [Act.put, List.setIfInBounds_toArray, List.set_cons_zero, List.set_cons_succ]; rfl)
    refine take_ (i := 34) (N := some 101) (v := ?_) (a' := ?_) (fl 35) rfl rfl (take_ofW HT_.out HW_.out (by kernel_rfl)) (fun _ _ _ h => h) (Or.inl ⟨by rfl, ?_⟩) hHeld ?_ ?_
    rotate_left; (intro w' hs; obtain ⟨s0, s1, s2, s3, s4, s5⟩ := (BY17.out.below hs).cells; go_simp; with_reducible rfl)
    rotate_left; (simp only [Act.put, List.setIfInBounds_toArray, List.set_cons_zero, List.set_cons_succ]; rfl)
    refine one_ (i := 35) (N := some 102) (fl 36) rfl rfl (one_of HT_.out (by kernel_rfl)) (by decide) (fun K hK => ?_)
    refine goesT_ Try.func33 (by kernel_rfl) rfl 99 rfl #[.agg #[.int .i64 PB.f0, .bool PB.f1.f0, .slice D2_13 PB.f1.f1.length d2_13, .string PB.f2, .int .i64 PB.f3, .slice D5_13 0 d5_13], .agg #[.int .i64 PB.f0, .bool PB.f1.f0, .slice D2_15 PB.f1.f1.length d2_15, .string PB.f2, .int .i64 PB.f3, .slice D5_15 0 d5_15]] (by rfl) rfl rfl (by (try simp only [List.map_toArray, List.map_cons, List.map_nil]); first | done | rfl) ?_
    refine (HM4.out _ HBB.out).mono ?_
    rintro e wn ⟨rfl, hb⟩
    refine ⟨_, rfl, ?_⟩
    have n0_ := Aside0.mk (below_step HBB.out hb)
    clear HBB hHeld hb
    have HBB := n0_
    clear n0_
    refine hK.out _ _ HBB.out (fun hHeld => ?_)
    clear hK K
    refine norm_ (a' := ?_) ?_ ?_
    rotate_left
    · show Act.put _ (some 102) _ = _
      simp only [Act.put, List.setIfInBounds_toArray, List.set_cons_zero, List.set_cons_succ, i64_w, i32_w]
      rfl
    refine pure_ (i := 36) (N := some 103) (v := ?_) (a' := ?_) (fl 37) rfl rfl (any_of HT_.out (by kernel_rfl)) (fun _ _ _ h => h) (Or.inl ⟨by rfl, ?_⟩) ?_ ?_
    rotate_left; (intro w'; go_simp; with_reducible rfl)
    rotate_left; (simp only [Act.put, List.setIfInBounds_toArray, List.set_cons_zero, List.set_cons_succ]; rfl)
    refine pure_ (i := 37) (N := some 104) (v := ?_) (a' := ?_) (fl 38) rfl rfl (any_of HT_.out (by kernel_rfl)) (fun _ _ _ h => h) (Or.inl ⟨by rfl, ?_⟩) ?_ ?_
    rotate_left; (intro w'; go_simp; with_reducible rfl)
    rotate_left; (simp only [Act.put, List.setIfInBounds_toArray, List.set_cons_zero, List.set_cons_succ]; rfl)
    refine pure_ (i := 38) (N := some 105) (v := ?_) (a' := ?_) (fl 39) rfl rfl (any_of HT_.out (by kernel_rfl)) (fun _ _ _ h => h) (Or.inl ⟨by rfl, ?_⟩) ?_ ?_
    rotate_left; (intro w'; go_simp; with_reducible rfl)
    rotate_left; (simp only [Act.put, List.setIfInBounds_toArray, List.set_cons_zero, List.set_cons_succ]; rfl)
    refine take_ (i := 39) (N := some 106) (v := ?_) (a' := ?_) (fl 40) rfl rfl (take_ofW HT_.out HW_.out (by kernel_rfl)) (fun _ _ _ h => h) (Or.inl ⟨by rfl, ?_⟩) hHeld ?_ ?_
    rotate_left; (intro w' hs; obtain ⟨s0, s1, s2, s3, s4, s5⟩ := (BV17.out.below hs).cells; go_simp; with_reducible rfl)
    rotate_left; (simp only [Act.put, List.setIfInBounds_toArray, List.set_cons_zero, List.set_cons_succ]; rfl)
    refine take_ (i := 40) (N := some 107) (v := ?_) (a' := ?_) (fl 41) rfl rfl (take_ofW HT_.out HW_.out (by kernel_rfl)) (fun _ _ _ h => h) (Or.inl ⟨by rfl, ?_⟩) hHeld ?_ ?_
    rotate_left; (intro w' hs; obtain ⟨s0, s1, s2, s3, s4, s5⟩ := (BZ17.out.below hs).cells; go_simp; with_reducible rfl)
    rotate_left; (simp only [Act.put, List.setIfInBounds_toArray, List.set_cons_zero, List.set_cons_succ]; rfl)
    refine one_ (i := 41) (N := some 108) (fl 42) rfl rfl (one_of HT_.out (by kernel_rfl)) (by decide) (fun K hK => ?_)
    refine goesT_ Try.func33 (by kernel_rfl) rfl 105 rfl #[.agg #[.int .i64 QB.f0, .bool QB.f1.f0, .slice D8_13 QB.f1.f1.length d8_13, .string QB.f2, .int .i64 QB.f3, .slice D11_13 0 d11_13], .agg #[.int .i64 QB.f0, .bool QB.f1.f0, .slice D8_15 QB.f1.f1.length d8_15, .string QB.f2, .int .i64 QB.f3, .slice D11_15 0 d11_15]] (by rfl) rfl rfl (by (try simp only [List.map_toArray, List.map_cons, List.map_nil]); first | done | rfl) ?_
    refine (HM5.out _ HBB.out).mono ?_
    rintro e wn ⟨rfl, hb⟩
    refine ⟨_, rfl, ?_⟩
    have n0_ := Aside0.mk (below_step HBB.out hb)
    clear HBB hHeld hb
    have HBB := n0_
    clear n0_
    refine hK.out _ _ HBB.out (fun hHeld => ?_)
    clear hK K
    refine norm_ (a' := ?_) ?_ ?_
    rotate_left
    · show Act.put _ (some 108) _ = _
      simp only [Act.put, List.setIfInBounds_toArray, List.set_cons_zero, List.set_cons_succ, i64_w, i32_w]
      rfl
    refine pure_ (i := 42) (N := some 109) (v := ?_) (a' := ?_) (fl 43) rfl rfl (any_of HT_.out (by kernel_rfl)) (fun _ _ _ h => h) (Or.inl ⟨by rfl, ?_⟩) ?_ ?_
    rotate_left; (intro w'; go_simp; with_reducible rfl)
    rotate_left; (simp only [Act.put, List.setIfInBounds_toArray, List.set_cons_zero, List.set_cons_succ]; rfl)
    refine pure_ (i := 43) (N := some 110) (v := ?_) (a' := ?_) (fl 44) rfl rfl (any_of HT_.out (by kernel_rfl)) (fun _ _ _ h => h) (Or.inl ⟨by rfl, ?_⟩) ?_ ?_
    rotate_left; (intro w'; go_simp; with_reducible rfl)
    rotate_left; (simp only [Act.put, List.setIfInBounds_toArray, List.set_cons_zero, List.set_cons_succ]; rfl)
    refine take_ (i := 44) (N := some 111) (v := ?_) (a' := ?_) (fl 45) rfl rfl (take_ofW HT_.out HW_.out (by kernel_rfl)) (fun _ _ _ h => h) (Or.inl ⟨by rfl, ?_⟩) hHeld ?_ ?_
    rotate_left; (intro w' hs; obtain ⟨s0, s1, s2, s3, s4, s5⟩ := (BX17.out.below hs).cells; go_simp; with_reducible rfl)
    rotate_left; (simp only [Act.put, List.setIfInBounds_toArray, List.set_cons_zero, List.set_cons_succ]; rfl)
    refine take_ (i := 46) (N := some 113) (v := ?_) (a' := ?_) (fl2 45 46) rfl rfl (take_ofW HT_.out HW_.out (by kernel_rfl)) (fun _ _ _ h => h) (Or.inl ⟨by rfl, ?_⟩) hHeld ?_ ?_
    rotate_left; (intro w' hs; obtain ⟨s0, s1, s2, s3, s4, s5⟩ := (BX17.out.below hs).cells; go_simp; with_reducible rfl)
    rotate_left; (simp only [Act.put, List.setIfInBounds_toArray, List.set_cons_zero, List.set_cons_succ]; rfl)
    refine one_ (i := 45) (N := some 112) (fl 47) rfl rfl (one_of HT_.out (by kernel_rfl)) (by decide) (fun K hK => ?_)
    refine goes_ Try.func34 (by kernel_rfl) rfl #[.agg #[.int .i64 x.f0, .bool x.f1.f0, .slice A2 x.f1.f1.length c2, .string x.f2, .int .i64 x.f3, .slice A5 x.f4.length c5]] (by rfl) rfl rfl (by (try simp only [List.map_toArray, List.map_cons, List.map_nil]); first | done | rfl) ?_
    refine (HM6.out _ HBB.out).mono ?_
    rintro e wn ⟨rfl, hb⟩
    refine ⟨_, rfl, ?_⟩
    have n0_ := Aside0.mk (below_step HBB.out hb)
    clear HBB hHeld hb
    have HBB := n0_
    clear n0_
    refine hK.out _ _ HBB.out (fun hHeld => ?_)
    clear hK K
    refine norm_ (a' := ?_) ?_ ?_
    rotate_left
    · show Act.put _ (some 112) _ = _
      simp only [Act.put, List.setIfInBounds_toArray, List.set_cons_zero, List.set_cons_succ, i64_w, i32_w]
      rfl
    refine one_ (i := 47) (N := some 114) (fl 48) rfl rfl (one_of HT_.out (by kernel_rfl)) (by decide) (fun K hK => ?_)
    refine goes_ Try.func44 (by kernel_rfl) rfl #[.agg #[.int .i64 x.f0, .bool x.f1.f0, .slice A2 x.f1.f1.length c2, .string x.f2, .int .i64 x.f3, .slice A5 x.f4.length c5]] (by rfl) rfl rfl (by (try simp only [List.map_toArray, List.map_cons, List.map_nil]); first | done | rfl) ?_
    refine (HM7.out _ HBB.out).mono ?_
    rintro e wn ⟨rfl, hb⟩
    refine ⟨_, rfl, ?_⟩
    have n0_ := Aside0.mk (below_step HBB.out hb)
    clear HBB hHeld hb
    have HBB := n0_
    clear n0_
    refine hK.out _ _ HBB.out (fun hHeld => ?_)
    clear hK K
    refine norm_ (a' := ?_) ?_ ?_
    rotate_left
    · show Act.put _ (some 114) _ = _
      simp only [Act.put, List.setIfInBounds_toArray, List.set_cons_zero, List.set_cons_succ, i64_w, i32_w]
      rfl
    refine pure_ (i := 48) (N := some 115) (v := ?_) (a' := ?_) (fl 49) rfl rfl (any_of HT_.out (by kernel_rfl)) (fun _ _ _ h => h) (Or.inl ⟨by rfl, ?_⟩) ?_ ?_
    rotate_left; (intro w'; go_simp; with_reducible rfl)
    rotate_left; (simp only [Act.put, List.setIfInBounds_toArray, List.set_cons_zero, List.set_cons_succ]; rfl)
    refine pure_ (i := 49) (N := some 116) (v := ?_) (a' := ?_) (fl 50) rfl rfl (any_of HT_.out (by kernel_rfl)) (fun _ _ _ h => h) (Or.inl ⟨by rfl, ?_⟩) ?_ ?_
    rotate_left; (intro w'; go_simp; with_reducible rfl)
    rotate_left; (simp only [Act.put, List.setIfInBounds_toArray, List.set_cons_zero, List.set_cons_succ]; rfl)
    refine pure_ (i := 50) (N := some 117) (v := ?_) (a' := ?_) (fl 51) rfl rfl (any_of HT_.out (by kernel_rfl)) (fun _ _ _ h => h) (Or.inl ⟨by rfl, ?_⟩) ?_ ?_
    rotate_left; (intro w'; go_simp; with_reducible rfl)
    rotate_left; (simp only [Act.put, List.setIfInBounds_toArray, List.set_cons_zero, List.set_cons_succ]; rfl)
    refine pure_ (i := 51) (N := some 118) (v := ?_) (a' := ?_) (fl 52) rfl rfl (any_of HT_.out (by kernel_rfl)) (fun _ _ _ h => h) (Or.inl ⟨by rfl, ?_⟩) ?_ ?_
    rotate_left; (intro w'; go_simp; with_reducible rfl)
    rotate_left; (simp only [Act.put, List.setIfInBounds_toArray, List.set_cons_zero, List.set_cons_succ]; rfl)
    refine take_ (i := 52) (N := some 119) (v := ?_) (a' := ?_) (fl 53) rfl rfl (take_ofW HT_.out HW_.out (by kernel_rfl)) (fun _ _ _ h => h) (Or.inl ⟨by rfl, ?_⟩) hHeld ?_ ?_
    rotate_left; (intro w' hs; obtain ⟨s0, s1, s2, s3, s4, s5⟩ := (BX17.out.below hs).cells; go_simp; with_reducible rfl)
    rotate_left; (simp only [Act.put, List.setIfInBounds_toArray, List.set_cons_zero, List.set_cons_succ]; rfl)
    refine take_ (i := 54) (N := some 121) (v := ?_) (a' := ?_) (fl2 53 54) rfl rfl (take_ofW HT_.out HW_.out (by kernel_rfl)) (fun _ _ _ h => h) (Or.inl ⟨by rfl, ?_⟩) hHeld ?_ ?_
    rotate_left; (intro w' hs; obtain ⟨s0, s1, s2, s3, s4, s5⟩ := (BX17.out.below hs).cells; go_simp; with_reducible rfl)
    rotate_left; (simp only [Act.put, List.setIfInBounds_toArray, List.set_cons_zero, List.set_cons_succ]; rfl)
    refine one_ (i := 53) (N := some 120) (fl 55) rfl rfl (one_of HT_.out (by kernel_rfl)) (by decide) (fun K hK => ?_)
    refine goes_ Try.func35 (by kernel_rfl) rfl #[.agg #[.int .i64 x.f0, .bool x.f1.f0, .slice A2 x.f1.f1.length c2, .string x.f2, .int .i64 x.f3, .slice A5 x.f4.length c5]] (by rfl) rfl rfl (by (try simp only [List.map_toArray, List.map_cons, List.map_nil]); first | done | rfl) ?_
    refine (HM8.out _ HBB.out).mono ?_
    rintro e wn ⟨v2, v5, rfl, q2, q5, hb⟩
    refine ⟨_, rfl, ?_⟩
    obtain ⟨R2, r2, rfl⟩ := Kd.R_slice q2
    obtain ⟨R5, r5, rfl⟩ := Kd.R_slice q5
    have LR := Aside0.mk (lies_of (a := PR.f0) (b := PR.f1.f0) (s := PR.f2) (N := PR.f3) q2 q5)
    clear q2 q5
    have n0_ := Aside0.mk (below_step HBB.out hb)
    clear HBB hHeld hb
    have HBB := n0_
    clear n0_
    refine hK.out _ _ HBB.out (fun hHeld => ?_)
    clear hK K
    refine norm_ (a' := ?_) ?_ ?_
    rotate_left
    · show Act.put _ (some 120) _ = _
      simp only [Act.put, List.setIfInBounds_toArray, List.set_cons_zero, List.set_cons_succ, i64_w, i32_w]
      rfl
    refine one_ (i := 55) (N := some 122) (fl 56) rfl rfl (one_of HT_.out (by kernel_rfl)) (by decide) (fun K hK => ?_)
    refine goes_ Try.func45 (by kernel_rfl) rfl #[.agg #[.int .i64 x.f0, .bool x.f1.f0, .slice A2 x.f1.f1.length c2, .string x.f2, .int .i64 x.f3, .slice A5 x.f4.length c5]] (by rfl) rfl rfl (by (try simp only [List.map_toArray, List.map_cons, List.map_nil]); first | done | rfl) ?_
    refine (HM9.out _ HBB.out).mono ?_
    rintro e wn ⟨v2, v5, rfl, q2, q5, hb⟩
    refine ⟨_, rfl, ?_⟩
    obtain ⟨T2, t2, rfl⟩ := Kd.R_slice q2
    obtain ⟨T5, t5, rfl⟩ := Kd.R_slice q5
    have LQ := Aside0.mk (lies_of (a := PR.f0) (b := PR.f1.f0) (s := PR.f2) (N := PR.f3) q2 q5)
    have n1_ := Aside0.mk (LR.out.below hb)
    clear q2 q5 LR
    have LR := n1_
    clear n1_
    have n0_ := Aside0.mk (below_step HBB.out hb)
    clear HBB hHeld hb
    have HBB := n0_
    clear n0_
    refine hK.out _ _ HBB.out (fun hHeld => ?_)
    clear hK K
    refine norm_ (a' := ?_) ?_ ?_
    rotate_left
    · show Act.put _ (some 122) _ = _
      simp only [Act.put, List.setIfInBounds_toArray, List.set_cons_zero, List.set_cons_succ, i64_w, i32_w]
      rfl
    refine one_ (i := 56) (N := some 123) (fl 57) rfl rfl (one_of HT_.out (by kernel_rfl)) (by decide) (fun K hK => ?_)
    refine goesT_ Try.func33 (by kernel_rfl) rfl 118 rfl #[.agg #[.int .i64 PR.f0, .bool PR.f1.f0, .slice R2 PR.f1.f1.length r2, .string PR.f2, .int .i64 PR.f3, .slice R5 0 r5], .agg #[.int .i64 PR.f0, .bool PR.f1.f0, .slice T2 PR.f1.f1.length t2, .string PR.f2, .int .i64 PR.f3, .slice T5 0 t5]] (by rfl) rfl rfl (by (try simp only [List.map_toArray, List.map_cons, List.map_nil]); first | done | rfl) ?_
    refine (relictlaw00_SameTerm.calls 10 PR.f0 PR.f1.f0 R2 r2 PR.f1.f1 PR.f2 PR.f3 R5 r5 [] PR.f0 PR.f1.f0 T2 t2 PR.f1.f1 PR.f2 PR.f3 T5 t5 [] true _ LR.out.1 LR.out.2.1 LR.out.2.2.1 LR.out.2.2.2 LQ.out.1 LQ.out.2.1 LQ.out.2.2.1 LQ.out.2.2.2 (same_self _ _ _ HLEN.out.2.2.2.2.2 _ _)).mono ?_
    rintro e wn ⟨rfl, hb⟩
    refine ⟨_, rfl, ?_⟩
    have n0_ := Aside0.mk (below_step HBB.out hb)
    clear HBB hHeld hb
    have HBB := n0_
    clear n0_
    refine hK.out _ _ HBB.out (fun hHeld => ?_)
    clear hK K
    refine norm_ (a' := ?_) ?_ ?_
    rotate_left
    · show Act.put _ (some 123) _ = _
      simp only [Act.put, List.setIfInBounds_toArray, List.set_cons_zero, List.set_cons_succ, i64_w, i32_w]
      rfl
    refine pure_ (i := 57) (N := some 124) (v := ?_) (a' := ?_) (fl 58) rfl rfl (any_of HT_.out (by kernel_rfl)) (fun _ _ _ h => h) (Or.inl ⟨by rfl, ?_⟩) ?_ ?_
    rotate_left; (intro w'; go_simp; with_reducible rfl)
    rotate_left; (simp only [Act.put, List.setIfInBounds_toArray, List.set_cons_zero, List.set_cons_succ]; rfl)
    refine pure_ (i := 58) (N := some 125) (v := ?_) (a' := ?_) (fl 59) rfl rfl (any_of HT_.out (by kernel_rfl)) (fun _ _ _ h => h) (Or.inl ⟨by rfl, ?_⟩) ?_ ?_
    rotate_left; (intro w'; go_simp; with_reducible rfl)
    rotate_left; (simp only [Act.put, List.setIfInBounds_toArray, List.set_cons_zero, List.set_cons_succ]; rfl)
    refine one_ (i := 59) (N := some 126) (fl 60) rfl rfl (one_of HT_.out (by kernel_rfl)) (by decide) (fun K hK => ?_)
    refine goes_ Try.func29 (by kernel_rfl) rfl #[] (by rfl) rfl rfl (by (try simp only [List.map_toArray, List.map_cons, List.map_nil]); first | done | rfl) ?_
    refine (awake_own _).mono ?_
    rintro e wn ⟨rfl, hb⟩
    refine ⟨_, rfl, ?_⟩
    have n0_ := Aside0.mk (below_step HBB.out hb)
    clear HBB hHeld hb
    have HBB := n0_
    clear n0_
    refine hK.out _ _ HBB.out (fun hHeld => ?_)
    clear hK K
    refine norm_ (a' := ?_) ?_ ?_
    rotate_left
    · show Act.put _ (some 126) _ = _
      simp only [Act.put, List.setIfInBounds_toArray, List.set_cons_zero, List.set_cons_succ, i64_w, i32_w]
      rfl
    refine pure_ (i := 60) (N := some 127) (v := ?_) (a' := ?_) (fl 61) rfl rfl (any_of HT_.out (by kernel_rfl)) (fun _ _ _ h => h) (Or.inl ⟨by rfl, ?_⟩) ?_ ?_
    rotate_left; (intro w'; go_simp; with_reducible rfl)
    rotate_left; (simp only [Act.put, List.setIfInBounds_toArray, List.set_cons_zero, List.set_cons_succ]; rfl)
    refine pure_ (i := 61) (N := some 4) (v := ?_) (a' := ?_) (fl 62) rfl rfl (any_of HT_.out (by kernel_rfl)) (fun _ _ _ h => h) (Or.inl ⟨by rfl, ?_⟩) ?_ ?_
    rotate_left; (intro w'; go_simp; with_reducible rfl)
    rotate_left; (simp only [Act.put, List.setIfInBounds_toArray, List.set_cons_zero, List.set_cons_succ]; rfl)
    refine done_ (done_of HT_.out (by kernel_rfl)) ?_
    try go_wp2
    go_ret
    exact ⟨rfl, BX17.out.2.2.trans (HBB.out.mono BX17.out.2.2.size)⟩
end Go.Proofs.YthdmacdeefohkaaMAll
