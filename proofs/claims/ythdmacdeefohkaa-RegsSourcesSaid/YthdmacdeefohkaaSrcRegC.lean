/- RegsSources: SrcRegC. -/
import Derived.Test.YthdmacdeefohkaaSrcRegA
import Derived.Deep.RegionHeld3
namespace Go.Proofs.YthdmacdeefohkaaSrcRegC
open Go.RowKit Go.Proofs.YthdmacdeefohkaaW.PrintWords Go.Proofs.YthdmacdeefohkaaW.PrintLast Go.Proofs.YthdmacdeefohkaaW.PrintMore Go.Proofs.YthdmacdeefohkaaMem Go.Proofs.YthdmacdeefohkaaLeaf Go.Proofs.YthdmacdeefohkaaBits Go.Proofs.Ythdmacdeefohkaa.PMa Go.Proofs.YthdmacdeefohkaaMTerm Go.Proofs.YthdmacdeefohkaaMVal Go.Proofs.YthdmacdeefohkaaIntT Go.Proofs.YthdmacdeefohkaaRegs Go.Proofs.YthdmacdeefohkaaStands Go.Proofs.YthdmacdeefohkaaSource Go.Proofs.YthdmacdeefohkaaNew Go.Proofs.YthdmacdeefohkaaArgs Go.Proofs.YthdmacdeefohkaaAwake21 Go.Proofs Go.Proofs.YthdmacdeefohkaaSrcRegA
set_option linter.unusedVariables false
set_option linter.unusedSimpArgs false
def T15 : Bool × List (List Nat × List Nat) := (true, [([], []), ([], []), ([], []), ([2], [2]), ([3], [3]), ([0, 1, 4, 4], [0, 1, 4]), ([5], [5]), ([6], [6]), ([6], [6]), ([], []), ([9, 7, 5, 0, 1, 2, 3, 4, 5, 6, 7, 9], [7, 9]), ([8, 10, 0, 1, 2, 3, 4, 5, 6, 7, 8, 9, 10], [8])])
def B15 : List Nat := [0, 0, 0, 4, 12, 31, 63, 127, 127, 0, 767, 2047]
def O15 : Array Oper := #[{ dst := some 95, op := Op.load 70 (Operand.tmp 9), type := 70, pos := "outright.go:24", after := #[], guard := none }, { dst := some 96, op := Op.load 66 (Operand.tmp 7), type := 66, pos := "outright.go:24", after := #[], guard := none }, { dst := some 97, op := Op.move (Operand.tmp 11), type := 3, pos := "outright.go:24", after := #[], guard := none }, { dst := some 98, op := Op.unOp UnOp.neg 3 (Operand.tmp 97), type := 3, pos := "outright.go:24", after := #[{ on := 2, ground := Ground.data }], guard := none }, { dst := some 99, op := Op.call { callee := Callee.value (Operand.func 51), args := #[Operand.tmp 98], argTypes := #[3] }, type := 77, pos := "outright.go:24", after := #[{ on := 3, ground := Ground.data }], guard := none }, { dst := some 100, op := Op.call { callee := Callee.value (Operand.func 47), args := #[Operand.tmp 95, Operand.tmp 96, Operand.tmp 99], argTypes := #[70, 66, 77] }, type := 46, pos := "outright.go:24", after := #[{ on := 0, ground := Ground.data }, { on := 1, ground := Ground.data }, { on := 4, ground := Ground.data }, { on := 4, ground := Ground.chain }], guard := none }, { dst := some 94, op := Op.move (Operand.tmp 100), type := 46, pos := "outright.go:24", after := #[{ on := 5, ground := Ground.data }], guard := none }, { dst := some 101, op := Op.extract (Operand.tmp 94) 0, type := 45, pos := "outright.go:24", after := #[{ on := 6, ground := Ground.data }], guard := none }, { dst := some 102, op := Op.extract (Operand.tmp 94) 1, type := 4, pos := "outright.go:24", after := #[{ on := 6, ground := Ground.data }, { on := 10, ground := Ground.gcOnly Departure.lateStores }], guard := none }, { dst := some 20, op := Op.alloc 45, type := 0, pos := "outright.go:24", after := #[], guard := none }, { dst := none, op := Op.store 45 (Operand.tmp 20) (Operand.tmp 101), type := 0, pos := "outright.go:24", after := #[{ on := 9, ground := Ground.data }, { on := 7, ground := Ground.data }, { on := 5, ground := Ground.chain }, { on := 0, ground := Ground.phase }, { on := 1, ground := Ground.phase }, { on := 2, ground := Ground.phase }, { on := 3, ground := Ground.phase }, { on := 4, ground := Ground.phase }, { on := 5, ground := Ground.phase }, { on := 6, ground := Ground.phase }, { on := 7, ground := Ground.phase }, { on := 8, ground := Ground.textOnly Departure.lateStores }, { on := 9, ground := Ground.phase }], guard := none }, { dst := some 21, op := Op.assign (Operand.tmp 102), type := 4, pos := "outright.go:24", after := #[{ on := 8, ground := Ground.data }, { on := 10, ground := Ground.chain }, { on := 0, ground := Ground.phase }, { on := 1, ground := Ground.phase }, { on := 2, ground := Ground.phase }, { on := 3, ground := Ground.phase }, { on := 4, ground := Ground.phase }, { on := 5, ground := Ground.phase }, { on := 6, ground := Ground.phase }, { on := 7, ground := Ground.phase }, { on := 8, ground := Ground.phase }, { on := 9, ground := Ground.phase }, { on := 10, ground := Ground.phase }], guard := none }]
theorem tab15 : rtab .any O15 = T15 := by kernel_rfl
theorem bits15 : waitsOk T15.2 B15 = true := by kernel_rfl
def T16 : Bool × List (List Nat × List Nat) := (true, [([], []), ([], []), ([], []), ([2], [2]), ([3], [3]), ([0, 1, 4, 4], [0, 1, 4]), ([5], [5]), ([6], [6]), ([6], [6]), ([], []), ([9, 7, 5, 0, 1, 2, 3, 4, 5, 6, 7, 9], [7, 9]), ([8, 10, 0, 1, 2, 3, 4, 5, 6, 7, 8, 9, 10], [8])])
def B16 : List Nat := [0, 0, 0, 4, 12, 31, 63, 127, 127, 0, 767, 2047]
def O16 : Array Oper := #[{ dst := some 104, op := Op.load 70 (Operand.tmp 9), type := 70, pos := "outright.go:25", after := #[], guard := none }, { dst := some 105, op := Op.load 66 (Operand.tmp 7), type := 66, pos := "outright.go:25", after := #[], guard := none }, { dst := some 106, op := Op.move (Operand.tmp 10), type := 3, pos := "outright.go:25", after := #[], guard := none }, { dst := some 107, op := Op.binOp BinOp.rem 3 (Operand.tmp 106) (Operand.const (Value.int IntKind.i64 5)) 3, type := 3, pos := "outright.go:25", after := #[{ on := 2, ground := Ground.data }], guard := none }, { dst := some 108, op := Op.call { callee := Callee.value (Operand.func 52), args := #[Operand.tmp 107], argTypes := #[3] }, type := 77, pos := "outright.go:25", after := #[{ on := 3, ground := Ground.data }], guard := none }, { dst := some 109, op := Op.call { callee := Callee.value (Operand.func 47), args := #[Operand.tmp 104, Operand.tmp 105, Operand.tmp 108], argTypes := #[70, 66, 77] }, type := 46, pos := "outright.go:25", after := #[{ on := 0, ground := Ground.data }, { on := 1, ground := Ground.data }, { on := 4, ground := Ground.data }, { on := 4, ground := Ground.chain }], guard := none }, { dst := some 103, op := Op.move (Operand.tmp 109), type := 46, pos := "outright.go:25", after := #[{ on := 5, ground := Ground.data }], guard := none }, { dst := some 110, op := Op.extract (Operand.tmp 103) 0, type := 45, pos := "outright.go:25", after := #[{ on := 6, ground := Ground.data }], guard := none }, { dst := some 111, op := Op.extract (Operand.tmp 103) 1, type := 4, pos := "outright.go:25", after := #[{ on := 6, ground := Ground.data }, { on := 10, ground := Ground.gcOnly Departure.lateStores }], guard := none }, { dst := some 22, op := Op.alloc 45, type := 0, pos := "outright.go:25", after := #[], guard := none }, { dst := none, op := Op.store 45 (Operand.tmp 22) (Operand.tmp 110), type := 0, pos := "outright.go:25", after := #[{ on := 9, ground := Ground.data }, { on := 7, ground := Ground.data }, { on := 5, ground := Ground.chain }, { on := 0, ground := Ground.phase }, { on := 1, ground := Ground.phase }, { on := 2, ground := Ground.phase }, { on := 3, ground := Ground.phase }, { on := 4, ground := Ground.phase }, { on := 5, ground := Ground.phase }, { on := 6, ground := Ground.phase }, { on := 7, ground := Ground.phase }, { on := 8, ground := Ground.textOnly Departure.lateStores }, { on := 9, ground := Ground.phase }], guard := none }, { dst := some 23, op := Op.assign (Operand.tmp 111), type := 4, pos := "outright.go:25", after := #[{ on := 8, ground := Ground.data }, { on := 10, ground := Ground.chain }, { on := 0, ground := Ground.phase }, { on := 1, ground := Ground.phase }, { on := 2, ground := Ground.phase }, { on := 3, ground := Ground.phase }, { on := 4, ground := Ground.phase }, { on := 5, ground := Ground.phase }, { on := 6, ground := Ground.phase }, { on := 7, ground := Ground.phase }, { on := 8, ground := Ground.phase }, { on := 9, ground := Ground.phase }, { on := 10, ground := Ground.phase }], guard := none }]
theorem tab16 : rtab .any O16 = T16 := by kernel_rfl
theorem bits16 : waitsOk T16.2 B16 = true := by kernel_rfl
def T17 : Bool × List (List Nat × List Nat) := (true, [([], []), ([], []), ([], []), ([0, 1, 2, 2], [0, 1, 2]), ([3], [3]), ([4], [4]), ([4], [4]), ([], []), ([7, 5, 3, 0, 1, 2, 3, 4, 5, 7], [5, 7]), ([6, 8, 0, 1, 2, 3, 4, 5, 6, 7, 8], [6])])
def B17 : List Nat := [0, 0, 0, 7, 15, 31, 31, 0, 191, 511]
def O17 : Array Oper := #[{ dst := some 113, op := Op.load 70 (Operand.tmp 9), type := 70, pos := "outright.go:26", after := #[], guard := none }, { dst := some 114, op := Op.load 66 (Operand.tmp 7), type := 66, pos := "outright.go:26", after := #[], guard := none }, { dst := some 115, op := Op.call { callee := Callee.value (Operand.func 52), args := #[Operand.const (Value.int IntKind.i64 0)], argTypes := #[3] }, type := 77, pos := "outright.go:26", after := #[], guard := none }, { dst := some 116, op := Op.call { callee := Callee.value (Operand.func 47), args := #[Operand.tmp 113, Operand.tmp 114, Operand.tmp 115], argTypes := #[70, 66, 77] }, type := 46, pos := "outright.go:26", after := #[{ on := 0, ground := Ground.data }, { on := 1, ground := Ground.data }, { on := 2, ground := Ground.data }, { on := 2, ground := Ground.chain }], guard := none }, { dst := some 112, op := Op.move (Operand.tmp 116), type := 46, pos := "outright.go:26", after := #[{ on := 3, ground := Ground.data }], guard := none }, { dst := some 117, op := Op.extract (Operand.tmp 112) 0, type := 45, pos := "outright.go:26", after := #[{ on := 4, ground := Ground.data }], guard := none }, { dst := some 118, op := Op.extract (Operand.tmp 112) 1, type := 4, pos := "outright.go:26", after := #[{ on := 4, ground := Ground.data }, { on := 8, ground := Ground.gcOnly Departure.lateStores }], guard := none }, { dst := some 24, op := Op.alloc 45, type := 0, pos := "outright.go:26", after := #[], guard := none }, { dst := none, op := Op.store 45 (Operand.tmp 24) (Operand.tmp 117), type := 0, pos := "outright.go:26", after := #[{ on := 7, ground := Ground.data }, { on := 5, ground := Ground.data }, { on := 3, ground := Ground.chain }, { on := 0, ground := Ground.phase }, { on := 1, ground := Ground.phase }, { on := 2, ground := Ground.phase }, { on := 3, ground := Ground.phase }, { on := 4, ground := Ground.phase }, { on := 5, ground := Ground.phase }, { on := 6, ground := Ground.textOnly Departure.lateStores }, { on := 7, ground := Ground.phase }], guard := none }, { dst := some 25, op := Op.assign (Operand.tmp 118), type := 4, pos := "outright.go:26", after := #[{ on := 6, ground := Ground.data }, { on := 8, ground := Ground.chain }, { on := 0, ground := Ground.phase }, { on := 1, ground := Ground.phase }, { on := 2, ground := Ground.phase }, { on := 3, ground := Ground.phase }, { on := 4, ground := Ground.phase }, { on := 5, ground := Ground.phase }, { on := 6, ground := Ground.phase }, { on := 7, ground := Ground.phase }, { on := 8, ground := Ground.phase }], guard := none }]
theorem tab17 : rtab .any O17 = T17 := by kernel_rfl
theorem bits17 : waitsOk T17.2 B17 = true := by kernel_rfl
set_option maxHeartbeats 16000000 in
set_option maxRecDepth 100000 in
theorem reg15 {u0 u1 u2 u3 u4 u5 u6 u7 u8 u9 u10 u11 u12 u13 u14 u15 u16 u17 u18 u19 u20 u21 u22 u23 u24 u25 u26 u27 u28 u29 u30 u31 u32 u33 u34 u35 u36 u37 u38 u39 u40 u41 u42 u43 u44 u45 u46 u47 u48 u49 u50 u51 u52 u53 u54 u55 u56 u57 u58 u59 u60 u61 u62 u63 u64 u65 u66 u67 u68 u69 u70 u71 u72 u73 u74 u75 u76 u77 u78 u79 u80 u81 u82 u83 u84 u85 u86 u87 u88 u89 u90 u91 u92 u93 u94 u95 u96 u97 u98 u99 u100 u101 u102 u103 u104 u105 u106 u107 u108 u109 u110 u111 u112 u113 u114 u115 u116 u117 u118 u119 u120 u121 u122 u123 u124 u125 u126 u127 u128 u129 u130 u131 u132 u133 u134 u135 u136 u137 u138 u139 u140 u141 u142 u143 u144 u145 u146 u147 u148 u149 u150 u151 u152 u153 u154 u155 u156 u157 u158 u159 u160 u161 u162 u163 u164 u165 u166 u167 u168 u169 u170 u171 u172 u173 u174 u175 u176 u177 u178 u179 u180 u181 u182 u183 u184 u185 u186 u187 u188 u189 u190 u191 u192 u193 u194 u195 u196 u197 u198 u199 u200 u201 u202 u203 u204 u205 u206 u207 u208 u209 u210 : Value} {Q : Exit → Act → World → Prop} (hP : ∀ c (a : Act) d v w, Q (.panic c) (a.put d v) w → Q (.panic c) a w) {V Y : World} {gr gf gm : Nat} {i v : Int} {CS F MS : Array Value} (hl : Ls V Y gr gf CS F) (hm : Y.heap[gm]? = some (.cells MS 66 (0, 0))) (hcs : CS.size = 101) (hms : MS.size = 6) {y : S45} {b : Bool} (hv : 0 ≤ v ∧ v < 288230376151711744)
    (hsrc : ∀ W, Below Y.heap.size Y W → Calls Try.prog 47 #[.agg CS, .agg MS, .agg #[.int .i64 1, .int .i64 (-v), .slice none 0 0]] W (Srcd LiesF y b W))
    (hQ : ∀ A2 c2 A5 c5 gb W1, Below Y.heap.size Y W1 → Y.heap.size ≤ gb → BoxF W1 gb y A2 c2 A5 c5 → Q .normal ⟨#[u0, u1, u2, u3, u4, u5, u6, .pointer (some ⟨gm, 0, none⟩), u8, .pointer (some ⟨gr, 0, none⟩), u10, .int .i64 v, u12, u13, u14, u15, u16, u17, u18, u19, .pointer (some ⟨gb, 0, none⟩), .bool b, u22, u23, u24, u25, u26, u27, u28, u29, u30, u31, u32, u33, u34, u35, u36, u37, u38, u39, u40, u41, u42, u43, u44, u45, u46, u47, u48, u49, u50, u51, u52, u53, u54, u55, u56, u57, u58, u59, u60, u61, u62, u63, u64, u65, u66, u67, u68, u69, u70, u71, u72, u73, u74, u75, u76, u77, u78, u79, u80, u81, u82, u83, u84, u85, u86, u87, u88, u89, u90, u91, u92, u93, .tuple #[.agg #[.int .i64 y.f0, .bool y.f1.f0, .slice A2 y.f1.f1.length c2, .string y.f2, .int .i64 y.f3, .slice A5 y.f4.length c5], .bool b], .agg CS, .agg MS, (.int .i64 v), (.int .i64 (-v)), .agg #[.int .i64 1, .int .i64 (-v), .slice none 0 0], .tuple #[.agg #[.int .i64 y.f0, .bool y.f1.f0, .slice A2 y.f1.f1.length c2, .string y.f2, .int .i64 y.f3, .slice A5 y.f4.length c5], .bool b], .agg #[.int .i64 y.f0, .bool y.f1.f0, .slice A2 y.f1.f1.length c2, .string y.f2, .int .i64 y.f3, .slice A5 y.f4.length c5], .bool b, u103, u104, u105, u106, u107, u108, u109, u110, u111, u112, u113, u114, u115, u116, u117, u118, u119, u120, u121, u122, u123, u124, u125, u126, u127, u128, u129, u130, u131, u132, u133, u134, u135, u136, u137, u138, u139, u140, u141, u142, u143, u144, u145, u146, u147, u148, u149, u150, u151, u152, u153, u154, u155, u156, u157, u158, u159, u160, u161, u162, u163, u164, u165, u166, u167, u168, u169, u170, u171, u172, u173, u174, u175, u176, u177, u178, u179, u180, u181, u182, u183, u184, u185, u186, u187, u188, u189, u190, u191, u192, u193, u194, u195, u196, u197, u198, u199, u200, u201, u202, u203, u204, u205, u206, u207, u208, u209, u210], []⟩ W1) :
    (Code.region 15 O15 true).wp Try.prog Q ⟨#[u0, u1, u2, u3, u4, u5, u6, .pointer (some ⟨gm, 0, none⟩), u8, .pointer (some ⟨gr, 0, none⟩), u10, .int .i64 v, u12, u13, u14, u15, u16, u17, u18, u19, u20, u21, u22, u23, u24, u25, u26, u27, u28, u29, u30, u31, u32, u33, u34, u35, u36, u37, u38, u39, u40, u41, u42, u43, u44, u45, u46, u47, u48, u49, u50, u51, u52, u53, u54, u55, u56, u57, u58, u59, u60, u61, u62, u63, u64, u65, u66, u67, u68, u69, u70, u71, u72, u73, u74, u75, u76, u77, u78, u79, u80, u81, u82, u83, u84, u85, u86, u87, u88, u89, u90, u91, u92, u93, u94, u95, u96, u97, u98, u99, u100, u101, u102, u103, u104, u105, u106, u107, u108, u109, u110, u111, u112, u113, u114, u115, u116, u117, u118, u119, u120, u121, u122, u123, u124, u125, u126, u127, u128, u129, u130, u131, u132, u133, u134, u135, u136, u137, u138, u139, u140, u141, u142, u143, u144, u145, u146, u147, u148, u149, u150, u151, u152, u153, u154, u155, u156, u157, u158, u159, u160, u161, u162, u163, u164, u165, u166, u167, u168, u169, u170, u171, u172, u173, u174, u175, u176, u177, u178, u179, u180, u181, u182, u183, u184, u185, u186, u187, u188, u189, u190, u191, u192, u193, u194, u195, u196, u197, u198, u199, u200, u201, u202, u203, u204, u205, u206, u207, u208, u209, u210], []⟩ Y := by
  unfold O15
  have hu45 := Try.underlying45
  have hu70 := Try.underlying70
  have hu66 := Try.underlying66
  have HLS := Aside0.mk hl
  have HMY := Aside0.mk hm
  have HSRC := Aside0.mk hsrc
  have HQ := Aside0.mk hQ
  have HP := Aside0.mk hP
  have HSZ := Aside0.mk (show (Try.prog.info? 70).map (·.size) = some CS.size by rw [hcs]; kernel_rfl)
  have HSM := Aside0.mk (show (Try.prog.info? 66).map (·.size) = some MS.size by rw [hms]; kernel_rfl)
  clear hl hm hsrc hQ hP
  have HBB := Aside0.mk (below_drew (Below.refl Y.heap.size Y))
  refine start_ (n := 12) (S := fun w' => Below Y.heap.size Y w') (ds := [10]) #[false, false, false, false, false, false, false, false, false, false, false, false] (by kernel_rfl) rfl rfl HBB.out (fun hHeld => ?_); refine with_tabW tab15 bits15 (fun HT_ HW_ => ?_)
  generalize Y.drew = wd at HBB hHeld ⊢
  refine take_ (i := 0) (N := (some 95)) (v := (.agg CS)) (a' := ?_) #[true, false, false, false, false, false, false, false, false, false, false, false] rfl rfl (take_ofW HT_.out HW_.out (by kernel_rfl)) (fun _ _ _ h => HP.out _ _ _ _ _ h) (Or.inl ⟨by rfl, ?_⟩) hHeld ?_ ?_
  · (intro w' hs; exact exec_load_row 70 (.tmp 9) rfl gr (by rfl) 70 CS (0, 0) _ ((hs.block _ (blk_lt HLS.out.r)).trans HLS.out.r) hu70 rfl HSZ.out)
  rotate_left; (simp only [Act.put, List.setIfInBounds_toArray, List.set_cons_zero, List.set_cons_succ, i64_w, i32_w]; rfl)
  refine take_ (i := 1) (N := (some 96)) (v := (.agg MS)) (a' := ?_) #[true, true, false, false, false, false, false, false, false, false, false, false] rfl rfl (take_ofW HT_.out HW_.out (by kernel_rfl)) (fun _ _ _ h => HP.out _ _ _ _ _ h) (Or.inl ⟨by rfl, ?_⟩) hHeld ?_ ?_
  · (intro w' hs; exact exec_load_row 66 (.tmp 7) rfl gm (by rfl) 66 MS (0, 0) _ ((hs.block _ (blk_lt HMY.out)).trans HMY.out) hu66 rfl HSM.out)
  rotate_left; (simp only [Act.put, List.setIfInBounds_toArray, List.set_cons_zero, List.set_cons_succ, i64_w, i32_w]; rfl)
  refine pure_ (i := 2) (N := (some 97)) (v := (.int .i64 v)) (a' := ?_) #[true, true, true, false, false, false, false, false, false, false, false, false] rfl rfl (any_of HT_.out (by kernel_rfl)) (fun _ _ _ h => HP.out _ _ _ _ _ h) (Or.inl ⟨by rfl, ?_⟩) ?_ ?_
  · (intro w'; go_simp; all_goals (first | with_reducible rfl | (congr 3; omega) | (simp only [i64_w]; congr 3; unfold wrap64; omega) | (rw [hi])))
  rotate_left; (simp only [Act.put, List.setIfInBounds_toArray, List.set_cons_zero, List.set_cons_succ, i64_w, i32_w]; rfl)
  refine pure_ (i := 3) (N := (some 98)) (v := (.int .i64 (-v))) (a' := ?_) #[true, true, true, true, false, false, false, false, false, false, false, false] rfl rfl (any_of HT_.out (by kernel_rfl)) (fun _ _ _ h => HP.out _ _ _ _ _ h) (Or.inl ⟨by rfl, ?_⟩) ?_ ?_
  · (intro w'; go_simp; all_goals (first | with_reducible rfl | (congr 3; omega) | (simp only [i64_w]; congr 3; unfold wrap64; omega) | (rw [hi])))
  rotate_left; (simp only [Act.put, List.setIfInBounds_toArray, List.set_cons_zero, List.set_cons_succ, i64_w, i32_w]; rfl)
  refine join_ (σ := Option Addr × Nat × Option Addr × Nat × Nat) 2 #[true, true, true, true, true, true, true, true, true, true, false, false] (fun s => [(99, .agg #[.int .i64 1, .int .i64 (-v), .slice none 0 0]), (100, .tuple #[.agg #[.int .i64 y.f0, .bool y.f1.f0, .slice s.1 y.f1.f1.length s.2.1, .string y.f2, .int .i64 y.f3, .slice s.2.2.1 y.f4.length s.2.2.2.1], .bool b]), (94, .tuple #[.agg #[.int .i64 y.f0, .bool y.f1.f0, .slice s.1 y.f1.f1.length s.2.1, .string y.f2, .int .i64 y.f3, .slice s.2.2.1 y.f4.length s.2.2.2.1], .bool b]), (101, .agg #[.int .i64 y.f0, .bool y.f1.f0, .slice s.1 y.f1.f1.length s.2.1, .string y.f2, .int .i64 y.f3, .slice s.2.2.1 y.f4.length s.2.2.2.1]), (102, .bool b), (20, .pointer (some ⟨s.2.2.2.2, 0, none⟩))]) (fun s w1 => Below Y.heap.size Y w1 ∧ w1.heap[s.2.2.2.2]? = some (.cells #[.int .i64 0, .bool false, .slice none 0 0, .string ⟨#[]⟩, .int .i64 0, .slice none 0 0] 45 (0, 0)) ∧ Y.heap.size ≤ s.2.2.2.2 ∧ LiesF w1 y s.1 s.2.1 s.2.2.1 s.2.2.2.1) ?hc ?hh
  case hh =>
    intro HJ
    refine two_ (i := 4) (j := 9) (Ni := (some 99)) (Nj := (some 20)) #[true, true, true, true, true, false, false, false, false, false, false, false] #[true, true, true, true, false, false, false, false, false, true, false, false] rfl rfl rfl rfl (two_of HT_.out (by kernel_rfl)) (by decide) (by decide) (fun K hK => ?_) (fun K hK => ?_)
    · skip
      refine goes_ Try.func51 (by kernel_rfl) rfl #[.int .i64 (-v)] (by rfl) rfl rfl (by (try simp only [List.map_toArray, List.map_cons, List.map_nil]); first | done | rfl) ?_
      refine (arg_I _ (-v)).mono ?_
      rintro e wn ⟨rfl, hb⟩
      refine ⟨_, rfl, ?_⟩
      have n0_ := Aside0.mk (below_step HBB.out hb)
      clear HBB hHeld hb
      have HBB := n0_
      clear n0_
      refine hK.out _ _ HBB.out (fun hHeld => ?_)
      clear hK K
      refine norm_ (a' := ?_) ?_ ?_
      rotate_left
      · show Act.put _ (some 99) _ = _
        simp only [Act.put, List.setIfInBounds_toArray, List.set_cons_zero, List.set_cons_succ, i64_w, i32_w]
        rfl
      refine two_ (i := 5) (j := 9) (Ni := (some 100)) (Nj := (some 20)) #[true, true, true, true, true, true, false, false, false, false, false, false] #[true, true, true, true, true, false, false, false, false, true, false, false] rfl rfl rfl rfl (two_of HT_.out (by kernel_rfl)) (by decide) (by decide) (fun K hK => ?_) (fun K hK => ?_)
      · skip
        refine goes_ Try.func47 (by kernel_rfl) rfl #[.agg CS, .agg MS, .agg #[.int .i64 1, .int .i64 (-v), .slice none 0 0]] (by rfl) rfl rfl (by (try simp only [List.map_toArray, List.map_cons, List.map_nil]); first | done | rfl) ?_
        refine (HSRC.out _ HBB.out).mono ?_
        rintro e wm ⟨A2, c2, A5, c5, rfl, hl, hb⟩
        refine ⟨_, rfl, ?_⟩
        have HLI := Aside0.mk hl
        clear hl
        have n0_ := Aside0.mk (below_step HBB.out hb)
        clear HBB hHeld hb
        have HBB := n0_
        clear n0_
        refine hK.out _ _ HBB.out (fun hHeld => ?_)
        clear hK K
        refine norm_ (a' := ?_) ?_ ?_
        rotate_left
        · show Act.put _ (some 100) _ = _
          simp only [Act.put, List.setIfInBounds_toArray, List.set_cons_zero, List.set_cons_succ, i64_w, i32_w]
          rfl
        refine pure_ (i := 6) (N := (some 94)) (v := ?_) (a' := ?_) #[true, true, true, true, true, true, true, false, false, false, false, false] rfl rfl (any_of HT_.out (by kernel_rfl)) (fun _ _ _ h => HP.out _ _ _ _ _ h) (Or.inl ⟨by rfl, ?_⟩) ?_ ?_
        rotate_left; (intro w'; go_simp; with_reducible rfl)
        rotate_left; (simp only [Act.put, List.setIfInBounds_toArray, List.set_cons_zero, List.set_cons_succ, i64_w, i32_w]; rfl)
        refine pure_ (i := 7) (N := (some 101)) (v := ?_) (a' := ?_) #[true, true, true, true, true, true, true, true, false, false, false, false] rfl rfl (any_of HT_.out (by kernel_rfl)) (fun _ _ _ h => HP.out _ _ _ _ _ h) (Or.inl ⟨by rfl, ?_⟩) ?_ ?_
        rotate_left; (intro w'; go_simp; with_reducible rfl)
        rotate_left; (simp only [Act.put, List.setIfInBounds_toArray, List.set_cons_zero, List.set_cons_succ, i64_w, i32_w]; rfl)
        refine pure_ (i := 8) (N := (some 102)) (v := ?_) (a' := ?_) #[true, true, true, true, true, true, true, true, true, false, false, false] rfl rfl (any_of HT_.out (by kernel_rfl)) (fun _ _ _ h => HP.out _ _ _ _ _ h) (Or.inl ⟨by rfl, ?_⟩) ?_ ?_
        rotate_left; (intro w'; go_simp; with_reducible rfl)
        rotate_left; (simp only [Act.put, List.setIfInBounds_toArray, List.set_cons_zero, List.set_cons_succ, i64_w, i32_w]; rfl)
        refine one_ (i := 9) (N := (some 20)) #[true, true, true, true, true, true, true, true, true, true, false, false] rfl rfl (one_of HT_.out (by kernel_rfl)) (by decide) (fun K hK => ?_)
        refine box_step ?hg (N := 20) ?hd (cs := #[.int .i64 0, .bool false, .slice none 0 0, .string ⟨#[]⟩, .int .i64 0, .slice none 0 0]) (t := 45) ?hr ?_; (case hd => rfl); (case hg => rfl); (case hr => first | (go_simp; done) | (go_simp; rfl))
        intro gb hg wo hbox hb
        have HLI := Aside0.mk (HLI.out.below hb)
        have n0_ := Aside0.mk (below_step HBB.out hb)
        have HBOX := Aside0.mk hbox
        have HGE := Aside0.mk (show Y.heap.size ≤ gb by rw [hg]; exact HBB.out.size)
        clear HBB hHeld hb hbox hg
        have HBB := n0_
        clear n0_
        refine hK.out _ _ HBB.out (fun hHeld => ?_)
        clear hK K
        refine norm_ (a' := ?_) ?_ ?_
        rotate_left
        · show Act.put _ (some 20) _ = _
          simp only [Act.put, List.setIfInBounds_toArray, List.set_cons_zero, List.set_cons_succ, i64_w, i32_w]
          rfl
        have hj := HJ (A2, c2, A5, c5, gb) _ ⟨HBB.out, HBOX.out, HGE.out, HLI.out⟩
        refine norm_ ?_ hj
        rfl
      · skip
        refine box_step ?hg (N := 20) ?hd (cs := #[.int .i64 0, .bool false, .slice none 0 0, .string ⟨#[]⟩, .int .i64 0, .slice none 0 0]) (t := 45) ?hr ?_; (case hd => rfl); (case hg => rfl); (case hr => first | (go_simp; done) | (go_simp; rfl))
        intro gb hg wo hbox hb
        have n0_ := Aside0.mk (below_step HBB.out hb)
        have HBOX := Aside0.mk hbox
        have HGE := Aside0.mk (show Y.heap.size ≤ gb by rw [hg]; exact HBB.out.size)
        clear HBB hHeld hb hbox hg
        have HBB := n0_
        clear n0_
        refine hK.out _ _ HBB.out (fun hHeld => ?_)
        clear hK K
        refine norm_ (a' := ?_) ?_ ?_
        rotate_left
        · show Act.put _ (some 20) _ = _
          simp only [Act.put, List.setIfInBounds_toArray, List.set_cons_zero, List.set_cons_succ, i64_w, i32_w]
          rfl
        refine one_ (i := 5) (N := (some 100)) #[true, true, true, true, true, true, false, false, false, true, false, false] rfl rfl (one_of HT_.out (by kernel_rfl)) (by decide) (fun K hK => ?_)
        refine goes_ Try.func47 (by kernel_rfl) rfl #[.agg CS, .agg MS, .agg #[.int .i64 1, .int .i64 (-v), .slice none 0 0]] (by rfl) rfl rfl (by (try simp only [List.map_toArray, List.map_cons, List.map_nil]); first | done | rfl) ?_
        refine (HSRC.out _ HBB.out).mono ?_
        rintro e wm ⟨A2, c2, A5, c5, rfl, hl, hb⟩
        refine ⟨_, rfl, ?_⟩
        have HBOX := Aside0.mk ((hb.block _ (blk_lt HBOX.out)).trans HBOX.out)
        have HLI := Aside0.mk hl
        clear hl
        have n0_ := Aside0.mk (below_step HBB.out hb)
        clear HBB hHeld hb
        have HBB := n0_
        clear n0_
        refine hK.out _ _ HBB.out (fun hHeld => ?_)
        clear hK K
        refine norm_ (a' := ?_) ?_ ?_
        rotate_left
        · show Act.put _ (some 100) _ = _
          simp only [Act.put, List.setIfInBounds_toArray, List.set_cons_zero, List.set_cons_succ, i64_w, i32_w]
          rfl
        refine pure_ (i := 6) (N := (some 94)) (v := ?_) (a' := ?_) #[true, true, true, true, true, true, true, false, false, true, false, false] rfl rfl (any_of HT_.out (by kernel_rfl)) (fun _ _ _ h => HP.out _ _ _ _ _ h) (Or.inl ⟨by rfl, ?_⟩) ?_ ?_
        rotate_left; (intro w'; go_simp; with_reducible rfl)
        rotate_left; (simp only [Act.put, List.setIfInBounds_toArray, List.set_cons_zero, List.set_cons_succ, i64_w, i32_w]; rfl)
        refine pure_ (i := 7) (N := (some 101)) (v := ?_) (a' := ?_) #[true, true, true, true, true, true, true, true, false, true, false, false] rfl rfl (any_of HT_.out (by kernel_rfl)) (fun _ _ _ h => HP.out _ _ _ _ _ h) (Or.inl ⟨by rfl, ?_⟩) ?_ ?_
        rotate_left; (intro w'; go_simp; with_reducible rfl)
        rotate_left; (simp only [Act.put, List.setIfInBounds_toArray, List.set_cons_zero, List.set_cons_succ, i64_w, i32_w]; rfl)
        refine pure_ (i := 8) (N := (some 102)) (v := ?_) (a' := ?_) #[true, true, true, true, true, true, true, true, true, true, false, false] rfl rfl (any_of HT_.out (by kernel_rfl)) (fun _ _ _ h => HP.out _ _ _ _ _ h) (Or.inl ⟨by rfl, ?_⟩) ?_ ?_
        rotate_left; (intro w'; go_simp; with_reducible rfl)
        rotate_left; (simp only [Act.put, List.setIfInBounds_toArray, List.set_cons_zero, List.set_cons_succ, i64_w, i32_w]; rfl)
        have hj := HJ (A2, c2, A5, c5, gb) _ ⟨HBB.out, HBOX.out, HGE.out, HLI.out⟩
        refine norm_ ?_ hj
        rfl
    · skip
      refine box_step ?hg (N := 20) ?hd (cs := #[.int .i64 0, .bool false, .slice none 0 0, .string ⟨#[]⟩, .int .i64 0, .slice none 0 0]) (t := 45) ?hr ?_; (case hd => rfl); (case hg => rfl); (case hr => first | (go_simp; done) | (go_simp; rfl))
      intro gb hg wo hbox hb
      have n0_ := Aside0.mk (below_step HBB.out hb)
      have HBOX := Aside0.mk hbox
      have HGE := Aside0.mk (show Y.heap.size ≤ gb by rw [hg]; exact HBB.out.size)
      clear HBB hHeld hb hbox hg
      have HBB := n0_
      clear n0_
      refine hK.out _ _ HBB.out (fun hHeld => ?_)
      clear hK K
      refine norm_ (a' := ?_) ?_ ?_
      rotate_left
      · show Act.put _ (some 20) _ = _
        simp only [Act.put, List.setIfInBounds_toArray, List.set_cons_zero, List.set_cons_succ, i64_w, i32_w]
        rfl
      refine one_ (i := 4) (N := (some 99)) #[true, true, true, true, true, false, false, false, false, true, false, false] rfl rfl (one_of HT_.out (by kernel_rfl)) (by decide) (fun K hK => ?_)
      refine goes_ Try.func51 (by kernel_rfl) rfl #[.int .i64 (-v)] (by rfl) rfl rfl (by (try simp only [List.map_toArray, List.map_cons, List.map_nil]); first | done | rfl) ?_
      refine (arg_I _ (-v)).mono ?_
      rintro e wn ⟨rfl, hb⟩
      refine ⟨_, rfl, ?_⟩
      have HBOX := Aside0.mk ((hb.block _ (blk_lt HBOX.out)).trans HBOX.out)
      have n0_ := Aside0.mk (below_step HBB.out hb)
      clear HBB hHeld hb
      have HBB := n0_
      clear n0_
      refine hK.out _ _ HBB.out (fun hHeld => ?_)
      clear hK K
      refine norm_ (a' := ?_) ?_ ?_
      rotate_left
      · show Act.put _ (some 99) _ = _
        simp only [Act.put, List.setIfInBounds_toArray, List.set_cons_zero, List.set_cons_succ, i64_w, i32_w]
        rfl
      refine one_ (i := 5) (N := (some 100)) #[true, true, true, true, true, true, false, false, false, true, false, false] rfl rfl (one_of HT_.out (by kernel_rfl)) (by decide) (fun K hK => ?_)
      refine goes_ Try.func47 (by kernel_rfl) rfl #[.agg CS, .agg MS, .agg #[.int .i64 1, .int .i64 (-v), .slice none 0 0]] (by rfl) rfl rfl (by (try simp only [List.map_toArray, List.map_cons, List.map_nil]); first | done | rfl) ?_
      refine (HSRC.out _ HBB.out).mono ?_
      rintro e wm ⟨A2, c2, A5, c5, rfl, hl, hb⟩
      refine ⟨_, rfl, ?_⟩
      have HBOX := Aside0.mk ((hb.block _ (blk_lt HBOX.out)).trans HBOX.out)
      have HLI := Aside0.mk hl
      clear hl
      have n0_ := Aside0.mk (below_step HBB.out hb)
      clear HBB hHeld hb
      have HBB := n0_
      clear n0_
      refine hK.out _ _ HBB.out (fun hHeld => ?_)
      clear hK K
      refine norm_ (a' := ?_) ?_ ?_
      rotate_left
      · show Act.put _ (some 100) _ = _
        simp only [Act.put, List.setIfInBounds_toArray, List.set_cons_zero, List.set_cons_succ, i64_w, i32_w]
        rfl
      refine pure_ (i := 6) (N := (some 94)) (v := ?_) (a' := ?_) #[true, true, true, true, true, true, true, false, false, true, false, false] rfl rfl (any_of HT_.out (by kernel_rfl)) (fun _ _ _ h => HP.out _ _ _ _ _ h) (Or.inl ⟨by rfl, ?_⟩) ?_ ?_
      rotate_left; (intro w'; go_simp; with_reducible rfl)
      rotate_left; (simp only [Act.put, List.setIfInBounds_toArray, List.set_cons_zero, List.set_cons_succ, i64_w, i32_w]; rfl)
      refine pure_ (i := 7) (N := (some 101)) (v := ?_) (a' := ?_) #[true, true, true, true, true, true, true, true, false, true, false, false] rfl rfl (any_of HT_.out (by kernel_rfl)) (fun _ _ _ h => HP.out _ _ _ _ _ h) (Or.inl ⟨by rfl, ?_⟩) ?_ ?_
      rotate_left; (intro w'; go_simp; with_reducible rfl)
      rotate_left; (simp only [Act.put, List.setIfInBounds_toArray, List.set_cons_zero, List.set_cons_succ, i64_w, i32_w]; rfl)
      refine pure_ (i := 8) (N := (some 102)) (v := ?_) (a' := ?_) #[true, true, true, true, true, true, true, true, true, true, false, false] rfl rfl (any_of HT_.out (by kernel_rfl)) (fun _ _ _ h => HP.out _ _ _ _ _ h) (Or.inl ⟨by rfl, ?_⟩) ?_ ?_
      rotate_left; (intro w'; go_simp; with_reducible rfl)
      rotate_left; (simp only [Act.put, List.setIfInBounds_toArray, List.set_cons_zero, List.set_cons_succ, i64_w, i32_w]; rfl)
      have hj := HJ (A2, c2, A5, c5, gb) _ ⟨HBB.out, HBOX.out, HGE.out, HLI.out⟩
      refine norm_ ?_ hj
      rfl
  case hc =>
    rintro ⟨A2, c2, A5, c5, gb⟩ wj ⟨hbj, hzj, hgj, hlj⟩
    refine norm_ (a' := ?_) ?_ ?_
    rotate_left
    · show putAll _ _ = _
      simp only [putAll, Act.put, List.setIfInBounds_toArray, List.set_cons_zero, List.set_cons_succ]
      rfl
    obtain ⟨e0, e1, e2, e3, e4, e5⟩ := six_cells hzj
    obtain ⟨z0, z1, z2, z3, z4, z5⟩ := six_live hzj
    refine last_ (i := 10) (N := none) #[true, true, true, true, true, true, true, true, true, true, true, false] rfl rfl (one_of HT_.out (by kernel_rfl)) (by decide) (fun K hK => ?_)
    refine skip_ (w1 := ?_) (by rfl) rfl ?_ ?_
    rotate_left
    · go_simp
      rfl
    refine hK.out _ _ ?_
    clear hK K
    refine pure_ (i := 11) (N := (some 21)) (v := ?_) (a' := ?_) #[true, true, true, true, true, true, true, true, true, true, true, true] rfl rfl (any_of HT_.out (by kernel_rfl)) (fun _ _ _ h => HP.out _ _ _ _ _ h) (Or.inl ⟨by rfl, ?_⟩) ?_ ?_
    rotate_left; (intro w'; go_simp; with_reducible rfl)
    rotate_left; (simp only [Act.put, List.setIfInBounds_toArray, List.set_cons_zero, List.set_cons_succ, i64_w, i32_w]; rfl)
    refine done_ (done_of HT_.out (by kernel_rfl)) ?_
    exact HQ.out A2 c2 A5 c5 gb _ (below_six hbj hgj) hgj ⟨six_put hzj, hlj.six hzj _ _ _ _ _ _⟩
set_option maxHeartbeats 16000000 in
set_option maxRecDepth 100000 in
theorem reg16 {u0 u1 u2 u3 u4 u5 u6 u7 u8 u9 u10 u11 u12 u13 u14 u15 u16 u17 u18 u19 u20 u21 u22 u23 u24 u25 u26 u27 u28 u29 u30 u31 u32 u33 u34 u35 u36 u37 u38 u39 u40 u41 u42 u43 u44 u45 u46 u47 u48 u49 u50 u51 u52 u53 u54 u55 u56 u57 u58 u59 u60 u61 u62 u63 u64 u65 u66 u67 u68 u69 u70 u71 u72 u73 u74 u75 u76 u77 u78 u79 u80 u81 u82 u83 u84 u85 u86 u87 u88 u89 u90 u91 u92 u93 u94 u95 u96 u97 u98 u99 u100 u101 u102 u103 u104 u105 u106 u107 u108 u109 u110 u111 u112 u113 u114 u115 u116 u117 u118 u119 u120 u121 u122 u123 u124 u125 u126 u127 u128 u129 u130 u131 u132 u133 u134 u135 u136 u137 u138 u139 u140 u141 u142 u143 u144 u145 u146 u147 u148 u149 u150 u151 u152 u153 u154 u155 u156 u157 u158 u159 u160 u161 u162 u163 u164 u165 u166 u167 u168 u169 u170 u171 u172 u173 u174 u175 u176 u177 u178 u179 u180 u181 u182 u183 u184 u185 u186 u187 u188 u189 u190 u191 u192 u193 u194 u195 u196 u197 u198 u199 u200 u201 u202 u203 u204 u205 u206 u207 u208 u209 u210 : Value} {Q : Exit → Act → World → Prop} (hP : ∀ c (a : Act) d v w, Q (.panic c) (a.put d v) w → Q (.panic c) a w) {V Y : World} {gr gf gm : Nat} {i v : Int} {CS F MS : Array Value} (hl : Ls V Y gr gf CS F) (hm : Y.heap[gm]? = some (.cells MS 66 (0, 0))) (hcs : CS.size = 101) (hms : MS.size = 6) {y : S45} {b : Bool} (hi : i.tmod 5 = v)
    (hsrc : ∀ W, Below Y.heap.size Y W → Calls Try.prog 47 #[.agg CS, .agg MS, .agg #[.int .i64 2, .int .i64 v, .slice none 0 0]] W (Srcd LiesF y b W))
    (hQ : ∀ A2 c2 A5 c5 gb W1, Below Y.heap.size Y W1 → Y.heap.size ≤ gb → BoxF W1 gb y A2 c2 A5 c5 → Q .normal ⟨#[u0, u1, u2, u3, u4, u5, u6, .pointer (some ⟨gm, 0, none⟩), u8, .pointer (some ⟨gr, 0, none⟩), .int .i64 i, u11, u12, u13, u14, u15, u16, u17, u18, u19, u20, u21, .pointer (some ⟨gb, 0, none⟩), .bool b, u24, u25, u26, u27, u28, u29, u30, u31, u32, u33, u34, u35, u36, u37, u38, u39, u40, u41, u42, u43, u44, u45, u46, u47, u48, u49, u50, u51, u52, u53, u54, u55, u56, u57, u58, u59, u60, u61, u62, u63, u64, u65, u66, u67, u68, u69, u70, u71, u72, u73, u74, u75, u76, u77, u78, u79, u80, u81, u82, u83, u84, u85, u86, u87, u88, u89, u90, u91, u92, u93, u94, u95, u96, u97, u98, u99, u100, u101, u102, .tuple #[.agg #[.int .i64 y.f0, .bool y.f1.f0, .slice A2 y.f1.f1.length c2, .string y.f2, .int .i64 y.f3, .slice A5 y.f4.length c5], .bool b], .agg CS, .agg MS, (.int .i64 i), (.int .i64 v), .agg #[.int .i64 2, .int .i64 v, .slice none 0 0], .tuple #[.agg #[.int .i64 y.f0, .bool y.f1.f0, .slice A2 y.f1.f1.length c2, .string y.f2, .int .i64 y.f3, .slice A5 y.f4.length c5], .bool b], .agg #[.int .i64 y.f0, .bool y.f1.f0, .slice A2 y.f1.f1.length c2, .string y.f2, .int .i64 y.f3, .slice A5 y.f4.length c5], .bool b, u112, u113, u114, u115, u116, u117, u118, u119, u120, u121, u122, u123, u124, u125, u126, u127, u128, u129, u130, u131, u132, u133, u134, u135, u136, u137, u138, u139, u140, u141, u142, u143, u144, u145, u146, u147, u148, u149, u150, u151, u152, u153, u154, u155, u156, u157, u158, u159, u160, u161, u162, u163, u164, u165, u166, u167, u168, u169, u170, u171, u172, u173, u174, u175, u176, u177, u178, u179, u180, u181, u182, u183, u184, u185, u186, u187, u188, u189, u190, u191, u192, u193, u194, u195, u196, u197, u198, u199, u200, u201, u202, u203, u204, u205, u206, u207, u208, u209, u210], []⟩ W1) :
    (Code.region 16 O16 true).wp Try.prog Q ⟨#[u0, u1, u2, u3, u4, u5, u6, .pointer (some ⟨gm, 0, none⟩), u8, .pointer (some ⟨gr, 0, none⟩), .int .i64 i, u11, u12, u13, u14, u15, u16, u17, u18, u19, u20, u21, u22, u23, u24, u25, u26, u27, u28, u29, u30, u31, u32, u33, u34, u35, u36, u37, u38, u39, u40, u41, u42, u43, u44, u45, u46, u47, u48, u49, u50, u51, u52, u53, u54, u55, u56, u57, u58, u59, u60, u61, u62, u63, u64, u65, u66, u67, u68, u69, u70, u71, u72, u73, u74, u75, u76, u77, u78, u79, u80, u81, u82, u83, u84, u85, u86, u87, u88, u89, u90, u91, u92, u93, u94, u95, u96, u97, u98, u99, u100, u101, u102, u103, u104, u105, u106, u107, u108, u109, u110, u111, u112, u113, u114, u115, u116, u117, u118, u119, u120, u121, u122, u123, u124, u125, u126, u127, u128, u129, u130, u131, u132, u133, u134, u135, u136, u137, u138, u139, u140, u141, u142, u143, u144, u145, u146, u147, u148, u149, u150, u151, u152, u153, u154, u155, u156, u157, u158, u159, u160, u161, u162, u163, u164, u165, u166, u167, u168, u169, u170, u171, u172, u173, u174, u175, u176, u177, u178, u179, u180, u181, u182, u183, u184, u185, u186, u187, u188, u189, u190, u191, u192, u193, u194, u195, u196, u197, u198, u199, u200, u201, u202, u203, u204, u205, u206, u207, u208, u209, u210], []⟩ Y := by
  unfold O16
  have hu45 := Try.underlying45
  have hu70 := Try.underlying70
  have hu66 := Try.underlying66
  have HLS := Aside0.mk hl
  have HMY := Aside0.mk hm
  have HSRC := Aside0.mk hsrc
  have HQ := Aside0.mk hQ
  have HP := Aside0.mk hP
  have HSZ := Aside0.mk (show (Try.prog.info? 70).map (·.size) = some CS.size by rw [hcs]; kernel_rfl)
  have HSM := Aside0.mk (show (Try.prog.info? 66).map (·.size) = some MS.size by rw [hms]; kernel_rfl)
  clear hl hm hsrc hQ hP
  have HBB := Aside0.mk (below_drew (Below.refl Y.heap.size Y))
  refine start_ (n := 12) (S := fun w' => Below Y.heap.size Y w') (ds := [10]) #[false, false, false, false, false, false, false, false, false, false, false, false] (by kernel_rfl) rfl rfl HBB.out (fun hHeld => ?_); refine with_tabW tab16 bits16 (fun HT_ HW_ => ?_)
  generalize Y.drew = wd at HBB hHeld ⊢
  refine take_ (i := 0) (N := (some 104)) (v := (.agg CS)) (a' := ?_) #[true, false, false, false, false, false, false, false, false, false, false, false] rfl rfl (take_ofW HT_.out HW_.out (by kernel_rfl)) (fun _ _ _ h => HP.out _ _ _ _ _ h) (Or.inl ⟨by rfl, ?_⟩) hHeld ?_ ?_
  · (intro w' hs; exact exec_load_row 70 (.tmp 9) rfl gr (by rfl) 70 CS (0, 0) _ ((hs.block _ (blk_lt HLS.out.r)).trans HLS.out.r) hu70 rfl HSZ.out)
  rotate_left; (simp only [Act.put, List.setIfInBounds_toArray, List.set_cons_zero, List.set_cons_succ, i64_w, i32_w]; rfl)
  refine take_ (i := 1) (N := (some 105)) (v := (.agg MS)) (a' := ?_) #[true, true, false, false, false, false, false, false, false, false, false, false] rfl rfl (take_ofW HT_.out HW_.out (by kernel_rfl)) (fun _ _ _ h => HP.out _ _ _ _ _ h) (Or.inl ⟨by rfl, ?_⟩) hHeld ?_ ?_
  · (intro w' hs; exact exec_load_row 66 (.tmp 7) rfl gm (by rfl) 66 MS (0, 0) _ ((hs.block _ (blk_lt HMY.out)).trans HMY.out) hu66 rfl HSM.out)
  rotate_left; (simp only [Act.put, List.setIfInBounds_toArray, List.set_cons_zero, List.set_cons_succ, i64_w, i32_w]; rfl)
  refine pure_ (i := 2) (N := (some 106)) (v := (.int .i64 i)) (a' := ?_) #[true, true, true, false, false, false, false, false, false, false, false, false] rfl rfl (any_of HT_.out (by kernel_rfl)) (fun _ _ _ h => HP.out _ _ _ _ _ h) (Or.inl ⟨by rfl, ?_⟩) ?_ ?_
  · (intro w'; go_simp; all_goals (first | with_reducible rfl | (congr 3; omega) | (simp only [i64_w]; congr 3; unfold wrap64; omega) | (rw [hi])))
  rotate_left; (simp only [Act.put, List.setIfInBounds_toArray, List.set_cons_zero, List.set_cons_succ, i64_w, i32_w]; rfl)
  refine pure_ (i := 3) (N := (some 107)) (v := (.int .i64 v)) (a' := ?_) #[true, true, true, true, false, false, false, false, false, false, false, false] rfl rfl (any_of HT_.out (by kernel_rfl)) (fun _ _ _ h => HP.out _ _ _ _ _ h) (Or.inl ⟨by rfl, ?_⟩) ?_ ?_
  · (intro w'; go_simp; all_goals (first | with_reducible rfl | (congr 3; omega) | (simp only [i64_w]; congr 3; unfold wrap64; omega) | (rw [hi])))
  rotate_left; (simp only [Act.put, List.setIfInBounds_toArray, List.set_cons_zero, List.set_cons_succ, i64_w, i32_w]; rfl)
  refine join_ (σ := Option Addr × Nat × Option Addr × Nat × Nat) 2 #[true, true, true, true, true, true, true, true, true, true, false, false] (fun s => [(108, .agg #[.int .i64 2, .int .i64 v, .slice none 0 0]), (109, .tuple #[.agg #[.int .i64 y.f0, .bool y.f1.f0, .slice s.1 y.f1.f1.length s.2.1, .string y.f2, .int .i64 y.f3, .slice s.2.2.1 y.f4.length s.2.2.2.1], .bool b]), (103, .tuple #[.agg #[.int .i64 y.f0, .bool y.f1.f0, .slice s.1 y.f1.f1.length s.2.1, .string y.f2, .int .i64 y.f3, .slice s.2.2.1 y.f4.length s.2.2.2.1], .bool b]), (110, .agg #[.int .i64 y.f0, .bool y.f1.f0, .slice s.1 y.f1.f1.length s.2.1, .string y.f2, .int .i64 y.f3, .slice s.2.2.1 y.f4.length s.2.2.2.1]), (111, .bool b), (22, .pointer (some ⟨s.2.2.2.2, 0, none⟩))]) (fun s w1 => Below Y.heap.size Y w1 ∧ w1.heap[s.2.2.2.2]? = some (.cells #[.int .i64 0, .bool false, .slice none 0 0, .string ⟨#[]⟩, .int .i64 0, .slice none 0 0] 45 (0, 0)) ∧ Y.heap.size ≤ s.2.2.2.2 ∧ LiesF w1 y s.1 s.2.1 s.2.2.1 s.2.2.2.1) ?hc ?hh
  case hh =>
    intro HJ
    refine two_ (i := 4) (j := 9) (Ni := (some 108)) (Nj := (some 22)) #[true, true, true, true, true, false, false, false, false, false, false, false] #[true, true, true, true, false, false, false, false, false, true, false, false] rfl rfl rfl rfl (two_of HT_.out (by kernel_rfl)) (by decide) (by decide) (fun K hK => ?_) (fun K hK => ?_)
    · skip
      refine goes_ Try.func52 (by kernel_rfl) rfl #[.int .i64 v] (by rfl) rfl rfl (by (try simp only [List.map_toArray, List.map_cons, List.map_nil]); first | done | rfl) ?_
      refine (arg_A _ v).mono ?_
      rintro e wn ⟨rfl, hb⟩
      refine ⟨_, rfl, ?_⟩
      have n0_ := Aside0.mk (below_step HBB.out hb)
      clear HBB hHeld hb
      have HBB := n0_
      clear n0_
      refine hK.out _ _ HBB.out (fun hHeld => ?_)
      clear hK K
      refine norm_ (a' := ?_) ?_ ?_
      rotate_left
      · show Act.put _ (some 108) _ = _
        simp only [Act.put, List.setIfInBounds_toArray, List.set_cons_zero, List.set_cons_succ, i64_w, i32_w]
        rfl
      refine two_ (i := 5) (j := 9) (Ni := (some 109)) (Nj := (some 22)) #[true, true, true, true, true, true, false, false, false, false, false, false] #[true, true, true, true, true, false, false, false, false, true, false, false] rfl rfl rfl rfl (two_of HT_.out (by kernel_rfl)) (by decide) (by decide) (fun K hK => ?_) (fun K hK => ?_)
      · skip
        refine goes_ Try.func47 (by kernel_rfl) rfl #[.agg CS, .agg MS, .agg #[.int .i64 2, .int .i64 v, .slice none 0 0]] (by rfl) rfl rfl (by (try simp only [List.map_toArray, List.map_cons, List.map_nil]); first | done | rfl) ?_
        refine (HSRC.out _ HBB.out).mono ?_
        rintro e wm ⟨A2, c2, A5, c5, rfl, hl, hb⟩
        refine ⟨_, rfl, ?_⟩
        have HLI := Aside0.mk hl
        clear hl
        have n0_ := Aside0.mk (below_step HBB.out hb)
        clear HBB hHeld hb
        have HBB := n0_
        clear n0_
        refine hK.out _ _ HBB.out (fun hHeld => ?_)
        clear hK K
        refine norm_ (a' := ?_) ?_ ?_
        rotate_left
        · show Act.put _ (some 109) _ = _
          simp only [Act.put, List.setIfInBounds_toArray, List.set_cons_zero, List.set_cons_succ, i64_w, i32_w]
          rfl
        refine pure_ (i := 6) (N := (some 103)) (v := ?_) (a' := ?_) #[true, true, true, true, true, true, true, false, false, false, false, false] rfl rfl (any_of HT_.out (by kernel_rfl)) (fun _ _ _ h => HP.out _ _ _ _ _ h) (Or.inl ⟨by rfl, ?_⟩) ?_ ?_
        rotate_left; (intro w'; go_simp; with_reducible rfl)
        rotate_left; (simp only [Act.put, List.setIfInBounds_toArray, List.set_cons_zero, List.set_cons_succ, i64_w, i32_w]; rfl)
        refine pure_ (i := 7) (N := (some 110)) (v := ?_) (a' := ?_) #[true, true, true, true, true, true, true, true, false, false, false, false] rfl rfl (any_of HT_.out (by kernel_rfl)) (fun _ _ _ h => HP.out _ _ _ _ _ h) (Or.inl ⟨by rfl, ?_⟩) ?_ ?_
        rotate_left; (intro w'; go_simp; with_reducible rfl)
        rotate_left; (simp only [Act.put, List.setIfInBounds_toArray, List.set_cons_zero, List.set_cons_succ, i64_w, i32_w]; rfl)
        refine pure_ (i := 8) (N := (some 111)) (v := ?_) (a' := ?_) #[true, true, true, true, true, true, true, true, true, false, false, false] rfl rfl (any_of HT_.out (by kernel_rfl)) (fun _ _ _ h => HP.out _ _ _ _ _ h) (Or.inl ⟨by rfl, ?_⟩) ?_ ?_
        rotate_left; (intro w'; go_simp; with_reducible rfl)
        rotate_left; (simp only [Act.put, List.setIfInBounds_toArray, List.set_cons_zero, List.set_cons_succ, i64_w, i32_w]; rfl)
        refine one_ (i := 9) (N := (some 22)) #[true, true, true, true, true, true, true, true, true, true, false, false] rfl rfl (one_of HT_.out (by kernel_rfl)) (by decide) (fun K hK => ?_)
        refine box_step ?hg (N := 22) ?hd (cs := #[.int .i64 0, .bool false, .slice none 0 0, .string ⟨#[]⟩, .int .i64 0, .slice none 0 0]) (t := 45) ?hr ?_; (case hd => rfl); (case hg => rfl); (case hr => first | (go_simp; done) | (go_simp; rfl))
        intro gb hg wo hbox hb
        have HLI := Aside0.mk (HLI.out.below hb)
        have n0_ := Aside0.mk (below_step HBB.out hb)
        have HBOX := Aside0.mk hbox
        have HGE := Aside0.mk (show Y.heap.size ≤ gb by rw [hg]; exact HBB.out.size)
        clear HBB hHeld hb hbox hg
        have HBB := n0_
        clear n0_
        refine hK.out _ _ HBB.out (fun hHeld => ?_)
        clear hK K
        refine norm_ (a' := ?_) ?_ ?_
        rotate_left
        · show Act.put _ (some 22) _ = _
          simp only [Act.put, List.setIfInBounds_toArray, List.set_cons_zero, List.set_cons_succ, i64_w, i32_w]
          rfl
        have hj := HJ (A2, c2, A5, c5, gb) _ ⟨HBB.out, HBOX.out, HGE.out, HLI.out⟩
        refine norm_ ?_ hj
        rfl
      · skip
        refine box_step ?hg (N := 22) ?hd (cs := #[.int .i64 0, .bool false, .slice none 0 0, .string ⟨#[]⟩, .int .i64 0, .slice none 0 0]) (t := 45) ?hr ?_; (case hd => rfl); (case hg => rfl); (case hr => first | (go_simp; done) | (go_simp; rfl))
        intro gb hg wo hbox hb
        have n0_ := Aside0.mk (below_step HBB.out hb)
        have HBOX := Aside0.mk hbox
        have HGE := Aside0.mk (show Y.heap.size ≤ gb by rw [hg]; exact HBB.out.size)
        clear HBB hHeld hb hbox hg
        have HBB := n0_
        clear n0_
        refine hK.out _ _ HBB.out (fun hHeld => ?_)
        clear hK K
        refine norm_ (a' := ?_) ?_ ?_
        rotate_left
        · show Act.put _ (some 22) _ = _
          simp only [Act.put, List.setIfInBounds_toArray, List.set_cons_zero, List.set_cons_succ, i64_w, i32_w]
          rfl
        refine one_ (i := 5) (N := (some 109)) #[true, true, true, true, true, true, false, false, false, true, false, false] rfl rfl (one_of HT_.out (by kernel_rfl)) (by decide) (fun K hK => ?_)
        refine goes_ Try.func47 (by kernel_rfl) rfl #[.agg CS, .agg MS, .agg #[.int .i64 2, .int .i64 v, .slice none 0 0]] (by rfl) rfl rfl (by (try simp only [List.map_toArray, List.map_cons, List.map_nil]); first | done | rfl) ?_
        refine (HSRC.out _ HBB.out).mono ?_
        rintro e wm ⟨A2, c2, A5, c5, rfl, hl, hb⟩
        refine ⟨_, rfl, ?_⟩
        have HBOX := Aside0.mk ((hb.block _ (blk_lt HBOX.out)).trans HBOX.out)
        have HLI := Aside0.mk hl
        clear hl
        have n0_ := Aside0.mk (below_step HBB.out hb)
        clear HBB hHeld hb
        have HBB := n0_
        clear n0_
        refine hK.out _ _ HBB.out (fun hHeld => ?_)
        clear hK K
        refine norm_ (a' := ?_) ?_ ?_
        rotate_left
        · show Act.put _ (some 109) _ = _
          simp only [Act.put, List.setIfInBounds_toArray, List.set_cons_zero, List.set_cons_succ, i64_w, i32_w]
          rfl
        refine pure_ (i := 6) (N := (some 103)) (v := ?_) (a' := ?_) #[true, true, true, true, true, true, true, false, false, true, false, false] rfl rfl (any_of HT_.out (by kernel_rfl)) (fun _ _ _ h => HP.out _ _ _ _ _ h) (Or.inl ⟨by rfl, ?_⟩) ?_ ?_
        rotate_left; (intro w'; go_simp; with_reducible rfl)
        rotate_left; (simp only [Act.put, List.setIfInBounds_toArray, List.set_cons_zero, List.set_cons_succ, i64_w, i32_w]; rfl)
        refine pure_ (i := 7) (N := (some 110)) (v := ?_) (a' := ?_) #[true, true, true, true, true, true, true, true, false, true, false, false] rfl rfl (any_of HT_.out (by kernel_rfl)) (fun _ _ _ h => HP.out _ _ _ _ _ h) (Or.inl ⟨by rfl, ?_⟩) ?_ ?_
        rotate_left; (intro w'; go_simp; with_reducible rfl)
        rotate_left; (simp only [Act.put, List.setIfInBounds_toArray, List.set_cons_zero, List.set_cons_succ, i64_w, i32_w]; rfl)
        refine pure_ (i := 8) (N := (some 111)) (v := ?_) (a' := ?_) #[true, true, true, true, true, true, true, true, true, true, false, false] rfl rfl (any_of HT_.out (by kernel_rfl)) (fun _ _ _ h => HP.out _ _ _ _ _ h) (Or.inl ⟨by rfl, ?_⟩) ?_ ?_
        rotate_left; (intro w'; go_simp; with_reducible rfl)
        rotate_left; (simp only [Act.put, List.setIfInBounds_toArray, List.set_cons_zero, List.set_cons_succ, i64_w, i32_w]; rfl)
        have hj := HJ (A2, c2, A5, c5, gb) _ ⟨HBB.out, HBOX.out, HGE.out, HLI.out⟩
        refine norm_ ?_ hj
        rfl
    · skip
      refine box_step ?hg (N := 22) ?hd (cs := #[.int .i64 0, .bool false, .slice none 0 0, .string ⟨#[]⟩, .int .i64 0, .slice none 0 0]) (t := 45) ?hr ?_; (case hd => rfl); (case hg => rfl); (case hr => first | (go_simp; done) | (go_simp; rfl))
      intro gb hg wo hbox hb
      have n0_ := Aside0.mk (below_step HBB.out hb)
      have HBOX := Aside0.mk hbox
      have HGE := Aside0.mk (show Y.heap.size ≤ gb by rw [hg]; exact HBB.out.size)
      clear HBB hHeld hb hbox hg
      have HBB := n0_
      clear n0_
      refine hK.out _ _ HBB.out (fun hHeld => ?_)
      clear hK K
      refine norm_ (a' := ?_) ?_ ?_
      rotate_left
      · show Act.put _ (some 22) _ = _
        simp only [Act.put, List.setIfInBounds_toArray, List.set_cons_zero, List.set_cons_succ, i64_w, i32_w]
        rfl
      refine one_ (i := 4) (N := (some 108)) #[true, true, true, true, true, false, false, false, false, true, false, false] rfl rfl (one_of HT_.out (by kernel_rfl)) (by decide) (fun K hK => ?_)
      refine goes_ Try.func52 (by kernel_rfl) rfl #[.int .i64 v] (by rfl) rfl rfl (by (try simp only [List.map_toArray, List.map_cons, List.map_nil]); first | done | rfl) ?_
      refine (arg_A _ v).mono ?_
      rintro e wn ⟨rfl, hb⟩
      refine ⟨_, rfl, ?_⟩
      have HBOX := Aside0.mk ((hb.block _ (blk_lt HBOX.out)).trans HBOX.out)
      have n0_ := Aside0.mk (below_step HBB.out hb)
      clear HBB hHeld hb
      have HBB := n0_
      clear n0_
      refine hK.out _ _ HBB.out (fun hHeld => ?_)
      clear hK K
      refine norm_ (a' := ?_) ?_ ?_
      rotate_left
      · show Act.put _ (some 108) _ = _
        simp only [Act.put, List.setIfInBounds_toArray, List.set_cons_zero, List.set_cons_succ, i64_w, i32_w]
        rfl
      refine one_ (i := 5) (N := (some 109)) #[true, true, true, true, true, true, false, false, false, true, false, false] rfl rfl (one_of HT_.out (by kernel_rfl)) (by decide) (fun K hK => ?_)
      refine goes_ Try.func47 (by kernel_rfl) rfl #[.agg CS, .agg MS, .agg #[.int .i64 2, .int .i64 v, .slice none 0 0]] (by rfl) rfl rfl (by (try simp only [List.map_toArray, List.map_cons, List.map_nil]); first | done | rfl) ?_
      refine (HSRC.out _ HBB.out).mono ?_
      rintro e wm ⟨A2, c2, A5, c5, rfl, hl, hb⟩
      refine ⟨_, rfl, ?_⟩
      have HBOX := Aside0.mk ((hb.block _ (blk_lt HBOX.out)).trans HBOX.out)
      have HLI := Aside0.mk hl
      clear hl
      have n0_ := Aside0.mk (below_step HBB.out hb)
      clear HBB hHeld hb
      have HBB := n0_
      clear n0_
      refine hK.out _ _ HBB.out (fun hHeld => ?_)
      clear hK K
      refine norm_ (a' := ?_) ?_ ?_
      rotate_left
      · show Act.put _ (some 109) _ = _
        simp only [Act.put, List.setIfInBounds_toArray, List.set_cons_zero, List.set_cons_succ, i64_w, i32_w]
        rfl
      refine pure_ (i := 6) (N := (some 103)) (v := ?_) (a' := ?_) #[true, true, true, true, true, true, true, false, false, true, false, false] rfl rfl (any_of HT_.out (by kernel_rfl)) (fun _ _ _ h => HP.out _ _ _ _ _ h) (Or.inl ⟨by rfl, ?_⟩) ?_ ?_
      rotate_left; (intro w'; go_simp; with_reducible rfl)
      rotate_left; (simp only [Act.put, List.setIfInBounds_toArray, List.set_cons_zero, List.set_cons_succ, i64_w, i32_w]; rfl)
      refine pure_ (i := 7) (N := (some 110)) (v := ?_) (a' := ?_) #[true, true, true, true, true, true, true, true, false, true, false, false] rfl rfl (any_of HT_.out (by kernel_rfl)) (fun _ _ _ h => HP.out _ _ _ _ _ h) (Or.inl ⟨by rfl, ?_⟩) ?_ ?_
      rotate_left; (intro w'; go_simp; with_reducible rfl)
      rotate_left; (simp only [Act.put, List.setIfInBounds_toArray, List.set_cons_zero, List.set_cons_succ, i64_w, i32_w]; rfl)
      refine pure_ (i := 8) (N := (some 111)) (v := ?_) (a' := ?_) #[true, true, true, true, true, true, true, true, true, true, false, false] rfl rfl (any_of HT_.out (by kernel_rfl)) (fun _ _ _ h => HP.out _ _ _ _ _ h) (Or.inl ⟨by rfl, ?_⟩) ?_ ?_
      rotate_left; (intro w'; go_simp; with_reducible rfl)
      rotate_left; (simp only [Act.put, List.setIfInBounds_toArray, List.set_cons_zero, List.set_cons_succ, i64_w, i32_w]; rfl)
      have hj := HJ (A2, c2, A5, c5, gb) _ ⟨HBB.out, HBOX.out, HGE.out, HLI.out⟩
      refine norm_ ?_ hj
      rfl
  case hc =>
    rintro ⟨A2, c2, A5, c5, gb⟩ wj ⟨hbj, hzj, hgj, hlj⟩
    refine norm_ (a' := ?_) ?_ ?_
    rotate_left
    · show putAll _ _ = _
      simp only [putAll, Act.put, List.setIfInBounds_toArray, List.set_cons_zero, List.set_cons_succ]
      rfl
    obtain ⟨e0, e1, e2, e3, e4, e5⟩ := six_cells hzj
    obtain ⟨z0, z1, z2, z3, z4, z5⟩ := six_live hzj
    refine last_ (i := 10) (N := none) #[true, true, true, true, true, true, true, true, true, true, true, false] rfl rfl (one_of HT_.out (by kernel_rfl)) (by decide) (fun K hK => ?_)
    refine skip_ (w1 := ?_) (by rfl) rfl ?_ ?_
    rotate_left
    · go_simp
      rfl
    refine hK.out _ _ ?_
    clear hK K
    refine pure_ (i := 11) (N := (some 23)) (v := ?_) (a' := ?_) #[true, true, true, true, true, true, true, true, true, true, true, true] rfl rfl (any_of HT_.out (by kernel_rfl)) (fun _ _ _ h => HP.out _ _ _ _ _ h) (Or.inl ⟨by rfl, ?_⟩) ?_ ?_
    rotate_left; (intro w'; go_simp; with_reducible rfl)
    rotate_left; (simp only [Act.put, List.setIfInBounds_toArray, List.set_cons_zero, List.set_cons_succ, i64_w, i32_w]; rfl)
    refine done_ (done_of HT_.out (by kernel_rfl)) ?_
    exact HQ.out A2 c2 A5 c5 gb _ (below_six hbj hgj) hgj ⟨six_put hzj, hlj.six hzj _ _ _ _ _ _⟩
set_option maxHeartbeats 16000000 in
set_option maxRecDepth 100000 in
theorem reg17 {u0 u1 u2 u3 u4 u5 u6 u7 u8 u9 u10 u11 u12 u13 u14 u15 u16 u17 u18 u19 u20 u21 u22 u23 u24 u25 u26 u27 u28 u29 u30 u31 u32 u33 u34 u35 u36 u37 u38 u39 u40 u41 u42 u43 u44 u45 u46 u47 u48 u49 u50 u51 u52 u53 u54 u55 u56 u57 u58 u59 u60 u61 u62 u63 u64 u65 u66 u67 u68 u69 u70 u71 u72 u73 u74 u75 u76 u77 u78 u79 u80 u81 u82 u83 u84 u85 u86 u87 u88 u89 u90 u91 u92 u93 u94 u95 u96 u97 u98 u99 u100 u101 u102 u103 u104 u105 u106 u107 u108 u109 u110 u111 u112 u113 u114 u115 u116 u117 u118 u119 u120 u121 u122 u123 u124 u125 u126 u127 u128 u129 u130 u131 u132 u133 u134 u135 u136 u137 u138 u139 u140 u141 u142 u143 u144 u145 u146 u147 u148 u149 u150 u151 u152 u153 u154 u155 u156 u157 u158 u159 u160 u161 u162 u163 u164 u165 u166 u167 u168 u169 u170 u171 u172 u173 u174 u175 u176 u177 u178 u179 u180 u181 u182 u183 u184 u185 u186 u187 u188 u189 u190 u191 u192 u193 u194 u195 u196 u197 u198 u199 u200 u201 u202 u203 u204 u205 u206 u207 u208 u209 u210 : Value} {Q : Exit → Act → World → Prop} (hP : ∀ c (a : Act) d v w, Q (.panic c) (a.put d v) w → Q (.panic c) a w) {V Y : World} {gr gf gm : Nat} {i v : Int} {CS F MS : Array Value} (hl : Ls V Y gr gf CS F) (hm : Y.heap[gm]? = some (.cells MS 66 (0, 0))) (hcs : CS.size = 101) (hms : MS.size = 6) {y : S45} {b : Bool}
    (hsrc : ∀ W, Below Y.heap.size Y W → Calls Try.prog 47 #[.agg CS, .agg MS, .agg #[.int .i64 2, .int .i64 0, .slice none 0 0]] W (Srcd LiesF y b W))
    (hQ : ∀ A2 c2 A5 c5 gb W1, Below Y.heap.size Y W1 → Y.heap.size ≤ gb → BoxF W1 gb y A2 c2 A5 c5 → Q .normal ⟨#[u0, u1, u2, u3, u4, u5, u6, .pointer (some ⟨gm, 0, none⟩), u8, .pointer (some ⟨gr, 0, none⟩), u10, u11, u12, u13, u14, u15, u16, u17, u18, u19, u20, u21, u22, u23, .pointer (some ⟨gb, 0, none⟩), .bool b, u26, u27, u28, u29, u30, u31, u32, u33, u34, u35, u36, u37, u38, u39, u40, u41, u42, u43, u44, u45, u46, u47, u48, u49, u50, u51, u52, u53, u54, u55, u56, u57, u58, u59, u60, u61, u62, u63, u64, u65, u66, u67, u68, u69, u70, u71, u72, u73, u74, u75, u76, u77, u78, u79, u80, u81, u82, u83, u84, u85, u86, u87, u88, u89, u90, u91, u92, u93, u94, u95, u96, u97, u98, u99, u100, u101, u102, u103, u104, u105, u106, u107, u108, u109, u110, u111, .tuple #[.agg #[.int .i64 y.f0, .bool y.f1.f0, .slice A2 y.f1.f1.length c2, .string y.f2, .int .i64 y.f3, .slice A5 y.f4.length c5], .bool b], .agg CS, .agg MS, .agg #[.int .i64 2, .int .i64 0, .slice none 0 0], .tuple #[.agg #[.int .i64 y.f0, .bool y.f1.f0, .slice A2 y.f1.f1.length c2, .string y.f2, .int .i64 y.f3, .slice A5 y.f4.length c5], .bool b], .agg #[.int .i64 y.f0, .bool y.f1.f0, .slice A2 y.f1.f1.length c2, .string y.f2, .int .i64 y.f3, .slice A5 y.f4.length c5], .bool b, u119, u120, u121, u122, u123, u124, u125, u126, u127, u128, u129, u130, u131, u132, u133, u134, u135, u136, u137, u138, u139, u140, u141, u142, u143, u144, u145, u146, u147, u148, u149, u150, u151, u152, u153, u154, u155, u156, u157, u158, u159, u160, u161, u162, u163, u164, u165, u166, u167, u168, u169, u170, u171, u172, u173, u174, u175, u176, u177, u178, u179, u180, u181, u182, u183, u184, u185, u186, u187, u188, u189, u190, u191, u192, u193, u194, u195, u196, u197, u198, u199, u200, u201, u202, u203, u204, u205, u206, u207, u208, u209, u210], []⟩ W1) :
    (Code.region 17 O17 true).wp Try.prog Q ⟨#[u0, u1, u2, u3, u4, u5, u6, .pointer (some ⟨gm, 0, none⟩), u8, .pointer (some ⟨gr, 0, none⟩), u10, u11, u12, u13, u14, u15, u16, u17, u18, u19, u20, u21, u22, u23, u24, u25, u26, u27, u28, u29, u30, u31, u32, u33, u34, u35, u36, u37, u38, u39, u40, u41, u42, u43, u44, u45, u46, u47, u48, u49, u50, u51, u52, u53, u54, u55, u56, u57, u58, u59, u60, u61, u62, u63, u64, u65, u66, u67, u68, u69, u70, u71, u72, u73, u74, u75, u76, u77, u78, u79, u80, u81, u82, u83, u84, u85, u86, u87, u88, u89, u90, u91, u92, u93, u94, u95, u96, u97, u98, u99, u100, u101, u102, u103, u104, u105, u106, u107, u108, u109, u110, u111, u112, u113, u114, u115, u116, u117, u118, u119, u120, u121, u122, u123, u124, u125, u126, u127, u128, u129, u130, u131, u132, u133, u134, u135, u136, u137, u138, u139, u140, u141, u142, u143, u144, u145, u146, u147, u148, u149, u150, u151, u152, u153, u154, u155, u156, u157, u158, u159, u160, u161, u162, u163, u164, u165, u166, u167, u168, u169, u170, u171, u172, u173, u174, u175, u176, u177, u178, u179, u180, u181, u182, u183, u184, u185, u186, u187, u188, u189, u190, u191, u192, u193, u194, u195, u196, u197, u198, u199, u200, u201, u202, u203, u204, u205, u206, u207, u208, u209, u210], []⟩ Y := by
  unfold O17
  have hu45 := Try.underlying45
  have hu70 := Try.underlying70
  have hu66 := Try.underlying66
  have HLS := Aside0.mk hl
  have HMY := Aside0.mk hm
  have HSRC := Aside0.mk hsrc
  have HQ := Aside0.mk hQ
  have HP := Aside0.mk hP
  have HSZ := Aside0.mk (show (Try.prog.info? 70).map (·.size) = some CS.size by rw [hcs]; kernel_rfl)
  have HSM := Aside0.mk (show (Try.prog.info? 66).map (·.size) = some MS.size by rw [hms]; kernel_rfl)
  clear hl hm hsrc hQ hP
  have HBB := Aside0.mk (below_drew (Below.refl Y.heap.size Y))
  refine start_ (n := 10) (S := fun w' => Below Y.heap.size Y w') (ds := [8]) #[false, false, false, false, false, false, false, false, false, false] (by kernel_rfl) rfl rfl HBB.out (fun hHeld => ?_); refine with_tabW tab17 bits17 (fun HT_ HW_ => ?_)
  generalize Y.drew = wd at HBB hHeld ⊢
  refine take_ (i := 0) (N := (some 113)) (v := (.agg CS)) (a' := ?_) #[true, false, false, false, false, false, false, false, false, false] rfl rfl (take_ofW HT_.out HW_.out (by kernel_rfl)) (fun _ _ _ h => HP.out _ _ _ _ _ h) (Or.inl ⟨by rfl, ?_⟩) hHeld ?_ ?_
  · (intro w' hs; exact exec_load_row 70 (.tmp 9) rfl gr (by rfl) 70 CS (0, 0) _ ((hs.block _ (blk_lt HLS.out.r)).trans HLS.out.r) hu70 rfl HSZ.out)
  rotate_left; (simp only [Act.put, List.setIfInBounds_toArray, List.set_cons_zero, List.set_cons_succ, i64_w, i32_w]; rfl)
  refine take_ (i := 1) (N := (some 114)) (v := (.agg MS)) (a' := ?_) #[true, true, false, false, false, false, false, false, false, false] rfl rfl (take_ofW HT_.out HW_.out (by kernel_rfl)) (fun _ _ _ h => HP.out _ _ _ _ _ h) (Or.inl ⟨by rfl, ?_⟩) hHeld ?_ ?_
  · (intro w' hs; exact exec_load_row 66 (.tmp 7) rfl gm (by rfl) 66 MS (0, 0) _ ((hs.block _ (blk_lt HMY.out)).trans HMY.out) hu66 rfl HSM.out)
  rotate_left; (simp only [Act.put, List.setIfInBounds_toArray, List.set_cons_zero, List.set_cons_succ, i64_w, i32_w]; rfl)
  refine join_ (σ := Option Addr × Nat × Option Addr × Nat × Nat) 2 #[true, true, true, true, true, true, true, true, false, false] (fun s => [(115, .agg #[.int .i64 2, .int .i64 0, .slice none 0 0]), (116, .tuple #[.agg #[.int .i64 y.f0, .bool y.f1.f0, .slice s.1 y.f1.f1.length s.2.1, .string y.f2, .int .i64 y.f3, .slice s.2.2.1 y.f4.length s.2.2.2.1], .bool b]), (112, .tuple #[.agg #[.int .i64 y.f0, .bool y.f1.f0, .slice s.1 y.f1.f1.length s.2.1, .string y.f2, .int .i64 y.f3, .slice s.2.2.1 y.f4.length s.2.2.2.1], .bool b]), (117, .agg #[.int .i64 y.f0, .bool y.f1.f0, .slice s.1 y.f1.f1.length s.2.1, .string y.f2, .int .i64 y.f3, .slice s.2.2.1 y.f4.length s.2.2.2.1]), (118, .bool b), (24, .pointer (some ⟨s.2.2.2.2, 0, none⟩))]) (fun s w1 => Below Y.heap.size Y w1 ∧ w1.heap[s.2.2.2.2]? = some (.cells #[.int .i64 0, .bool false, .slice none 0 0, .string ⟨#[]⟩, .int .i64 0, .slice none 0 0] 45 (0, 0)) ∧ Y.heap.size ≤ s.2.2.2.2 ∧ LiesF w1 y s.1 s.2.1 s.2.2.1 s.2.2.2.1) ?hc ?hh
  case hh =>
    intro HJ
    refine two_ (i := 2) (j := 7) (Ni := (some 115)) (Nj := (some 24)) #[true, true, true, false, false, false, false, false, false, false] #[true, true, false, false, false, false, false, true, false, false] rfl rfl rfl rfl (two_of HT_.out (by kernel_rfl)) (by decide) (by decide) (fun K hK => ?_) (fun K hK => ?_)
    · skip
      refine goes_ Try.func52 (by kernel_rfl) rfl #[.int .i64 0] (by rfl) rfl rfl (by (try simp only [List.map_toArray, List.map_cons, List.map_nil]); first | done | rfl) ?_
      refine (arg_A _ 0).mono ?_
      rintro e wn ⟨rfl, hb⟩
      refine ⟨_, rfl, ?_⟩
      have n0_ := Aside0.mk (below_step HBB.out hb)
      clear HBB hHeld hb
      have HBB := n0_
      clear n0_
      refine hK.out _ _ HBB.out (fun hHeld => ?_)
      clear hK K
      refine norm_ (a' := ?_) ?_ ?_
      rotate_left
      · show Act.put _ (some 115) _ = _
        simp only [Act.put, List.setIfInBounds_toArray, List.set_cons_zero, List.set_cons_succ, i64_w, i32_w]
        rfl
      refine two_ (i := 3) (j := 7) (Ni := (some 116)) (Nj := (some 24)) #[true, true, true, true, false, false, false, false, false, false] #[true, true, true, false, false, false, false, true, false, false] rfl rfl rfl rfl (two_of HT_.out (by kernel_rfl)) (by decide) (by decide) (fun K hK => ?_) (fun K hK => ?_)
      · skip
        refine goes_ Try.func47 (by kernel_rfl) rfl #[.agg CS, .agg MS, .agg #[.int .i64 2, .int .i64 0, .slice none 0 0]] (by rfl) rfl rfl (by (try simp only [List.map_toArray, List.map_cons, List.map_nil]); first | done | rfl) ?_
        refine (HSRC.out _ HBB.out).mono ?_
        rintro e wm ⟨A2, c2, A5, c5, rfl, hl, hb⟩
        refine ⟨_, rfl, ?_⟩
        have HLI := Aside0.mk hl
        clear hl
        have n0_ := Aside0.mk (below_step HBB.out hb)
        clear HBB hHeld hb
        have HBB := n0_
        clear n0_
        refine hK.out _ _ HBB.out (fun hHeld => ?_)
        clear hK K
        refine norm_ (a' := ?_) ?_ ?_
        rotate_left
        · show Act.put _ (some 116) _ = _
          simp only [Act.put, List.setIfInBounds_toArray, List.set_cons_zero, List.set_cons_succ, i64_w, i32_w]
          rfl
        refine pure_ (i := 4) (N := (some 112)) (v := ?_) (a' := ?_) #[true, true, true, true, true, false, false, false, false, false] rfl rfl (any_of HT_.out (by kernel_rfl)) (fun _ _ _ h => HP.out _ _ _ _ _ h) (Or.inl ⟨by rfl, ?_⟩) ?_ ?_
        rotate_left; (intro w'; go_simp; with_reducible rfl)
        rotate_left; (simp only [Act.put, List.setIfInBounds_toArray, List.set_cons_zero, List.set_cons_succ, i64_w, i32_w]; rfl)
        refine pure_ (i := 5) (N := (some 117)) (v := ?_) (a' := ?_) #[true, true, true, true, true, true, false, false, false, false] rfl rfl (any_of HT_.out (by kernel_rfl)) (fun _ _ _ h => HP.out _ _ _ _ _ h) (Or.inl ⟨by rfl, ?_⟩) ?_ ?_
        rotate_left; (intro w'; go_simp; with_reducible rfl)
        rotate_left; (simp only [Act.put, List.setIfInBounds_toArray, List.set_cons_zero, List.set_cons_succ, i64_w, i32_w]; rfl)
        refine pure_ (i := 6) (N := (some 118)) (v := ?_) (a' := ?_) #[true, true, true, true, true, true, true, false, false, false] rfl rfl (any_of HT_.out (by kernel_rfl)) (fun _ _ _ h => HP.out _ _ _ _ _ h) (Or.inl ⟨by rfl, ?_⟩) ?_ ?_
        rotate_left; (intro w'; go_simp; with_reducible rfl)
        rotate_left; (simp only [Act.put, List.setIfInBounds_toArray, List.set_cons_zero, List.set_cons_succ, i64_w, i32_w]; rfl)
        refine one_ (i := 7) (N := (some 24)) #[true, true, true, true, true, true, true, true, false, false] rfl rfl (one_of HT_.out (by kernel_rfl)) (by decide) (fun K hK => ?_)
        refine box_step ?hg (N := 24) ?hd (cs := #[.int .i64 0, .bool false, .slice none 0 0, .string ⟨#[]⟩, .int .i64 0, .slice none 0 0]) (t := 45) ?hr ?_; (case hd => rfl); (case hg => rfl); (case hr => first | (go_simp; done) | (go_simp; rfl))
        intro gb hg wo hbox hb
        have HLI := Aside0.mk (HLI.out.below hb)
        have n0_ := Aside0.mk (below_step HBB.out hb)
        have HBOX := Aside0.mk hbox
        have HGE := Aside0.mk (show Y.heap.size ≤ gb by rw [hg]; exact HBB.out.size)
        clear HBB hHeld hb hbox hg
        have HBB := n0_
        clear n0_
        refine hK.out _ _ HBB.out (fun hHeld => ?_)
        clear hK K
        refine norm_ (a' := ?_) ?_ ?_
        rotate_left
        · show Act.put _ (some 24) _ = _
          simp only [Act.put, List.setIfInBounds_toArray, List.set_cons_zero, List.set_cons_succ, i64_w, i32_w]
          rfl
        have hj := HJ (A2, c2, A5, c5, gb) _ ⟨HBB.out, HBOX.out, HGE.out, HLI.out⟩
        refine norm_ ?_ hj
        rfl
      · skip
        refine box_step ?hg (N := 24) ?hd (cs := #[.int .i64 0, .bool false, .slice none 0 0, .string ⟨#[]⟩, .int .i64 0, .slice none 0 0]) (t := 45) ?hr ?_; (case hd => rfl); (case hg => rfl); (case hr => first | (go_simp; done) | (go_simp; rfl))
        intro gb hg wo hbox hb
        have n0_ := Aside0.mk (below_step HBB.out hb)
        have HBOX := Aside0.mk hbox
        have HGE := Aside0.mk (show Y.heap.size ≤ gb by rw [hg]; exact HBB.out.size)
        clear HBB hHeld hb hbox hg
        have HBB := n0_
        clear n0_
        refine hK.out _ _ HBB.out (fun hHeld => ?_)
        clear hK K
        refine norm_ (a' := ?_) ?_ ?_
        rotate_left
        · show Act.put _ (some 24) _ = _
          simp only [Act.put, List.setIfInBounds_toArray, List.set_cons_zero, List.set_cons_succ, i64_w, i32_w]
          rfl
        refine one_ (i := 3) (N := (some 116)) #[true, true, true, true, false, false, false, true, false, false] rfl rfl (one_of HT_.out (by kernel_rfl)) (by decide) (fun K hK => ?_)
        refine goes_ Try.func47 (by kernel_rfl) rfl #[.agg CS, .agg MS, .agg #[.int .i64 2, .int .i64 0, .slice none 0 0]] (by rfl) rfl rfl (by (try simp only [List.map_toArray, List.map_cons, List.map_nil]); first | done | rfl) ?_
        refine (HSRC.out _ HBB.out).mono ?_
        rintro e wm ⟨A2, c2, A5, c5, rfl, hl, hb⟩
        refine ⟨_, rfl, ?_⟩
        have HBOX := Aside0.mk ((hb.block _ (blk_lt HBOX.out)).trans HBOX.out)
        have HLI := Aside0.mk hl
        clear hl
        have n0_ := Aside0.mk (below_step HBB.out hb)
        clear HBB hHeld hb
        have HBB := n0_
        clear n0_
        refine hK.out _ _ HBB.out (fun hHeld => ?_)
        clear hK K
        refine norm_ (a' := ?_) ?_ ?_
        rotate_left
        · show Act.put _ (some 116) _ = _
          simp only [Act.put, List.setIfInBounds_toArray, List.set_cons_zero, List.set_cons_succ, i64_w, i32_w]
          rfl
        refine pure_ (i := 4) (N := (some 112)) (v := ?_) (a' := ?_) #[true, true, true, true, true, false, false, true, false, false] rfl rfl (any_of HT_.out (by kernel_rfl)) (fun _ _ _ h => HP.out _ _ _ _ _ h) (Or.inl ⟨by rfl, ?_⟩) ?_ ?_
        rotate_left; (intro w'; go_simp; with_reducible rfl)
        rotate_left; (simp only [Act.put, List.setIfInBounds_toArray, List.set_cons_zero, List.set_cons_succ, i64_w, i32_w]; rfl)
        refine pure_ (i := 5) (N := (some 117)) (v := ?_) (a' := ?_) #[true, true, true, true, true, true, false, true, false, false] rfl rfl (any_of HT_.out (by kernel_rfl)) (fun _ _ _ h => HP.out _ _ _ _ _ h) (Or.inl ⟨by rfl, ?_⟩) ?_ ?_
        rotate_left; (intro w'; go_simp; with_reducible rfl)
        rotate_left; (simp only [Act.put, List.setIfInBounds_toArray, List.set_cons_zero, List.set_cons_succ, i64_w, i32_w]; rfl)
        refine pure_ (i := 6) (N := (some 118)) (v := ?_) (a' := ?_) #[true, true, true, true, true, true, true, true, false, false] rfl rfl (any_of HT_.out (by kernel_rfl)) (fun _ _ _ h => HP.out _ _ _ _ _ h) (Or.inl ⟨by rfl, ?_⟩) ?_ ?_
        rotate_left; (intro w'; go_simp; with_reducible rfl)
        rotate_left; (simp only [Act.put, List.setIfInBounds_toArray, List.set_cons_zero, List.set_cons_succ, i64_w, i32_w]; rfl)
        have hj := HJ (A2, c2, A5, c5, gb) _ ⟨HBB.out, HBOX.out, HGE.out, HLI.out⟩
        refine norm_ ?_ hj
        rfl
    · skip
      refine box_step ?hg (N := 24) ?hd (cs := #[.int .i64 0, .bool false, .slice none 0 0, .string ⟨#[]⟩, .int .i64 0, .slice none 0 0]) (t := 45) ?hr ?_; (case hd => rfl); (case hg => rfl); (case hr => first | (go_simp; done) | (go_simp; rfl))
      intro gb hg wo hbox hb
      have n0_ := Aside0.mk (below_step HBB.out hb)
      have HBOX := Aside0.mk hbox
      have HGE := Aside0.mk (show Y.heap.size ≤ gb by rw [hg]; exact HBB.out.size)
      clear HBB hHeld hb hbox hg
      have HBB := n0_
      clear n0_
      refine hK.out _ _ HBB.out (fun hHeld => ?_)
      clear hK K
      refine norm_ (a' := ?_) ?_ ?_
      rotate_left
      · show Act.put _ (some 24) _ = _
        simp only [Act.put, List.setIfInBounds_toArray, List.set_cons_zero, List.set_cons_succ, i64_w, i32_w]
        rfl
      refine one_ (i := 2) (N := (some 115)) #[true, true, true, false, false, false, false, true, false, false] rfl rfl (one_of HT_.out (by kernel_rfl)) (by decide) (fun K hK => ?_)
      refine goes_ Try.func52 (by kernel_rfl) rfl #[.int .i64 0] (by rfl) rfl rfl (by (try simp only [List.map_toArray, List.map_cons, List.map_nil]); first | done | rfl) ?_
      refine (arg_A _ 0).mono ?_
      rintro e wn ⟨rfl, hb⟩
      refine ⟨_, rfl, ?_⟩
      have HBOX := Aside0.mk ((hb.block _ (blk_lt HBOX.out)).trans HBOX.out)
      have n0_ := Aside0.mk (below_step HBB.out hb)
      clear HBB hHeld hb
      have HBB := n0_
      clear n0_
      refine hK.out _ _ HBB.out (fun hHeld => ?_)
      clear hK K
      refine norm_ (a' := ?_) ?_ ?_
      rotate_left
      · show Act.put _ (some 115) _ = _
        simp only [Act.put, List.setIfInBounds_toArray, List.set_cons_zero, List.set_cons_succ, i64_w, i32_w]
        rfl
      refine one_ (i := 3) (N := (some 116)) #[true, true, true, true, false, false, false, true, false, false] rfl rfl (one_of HT_.out (by kernel_rfl)) (by decide) (fun K hK => ?_)
      refine goes_ Try.func47 (by kernel_rfl) rfl #[.agg CS, .agg MS, .agg #[.int .i64 2, .int .i64 0, .slice none 0 0]] (by rfl) rfl rfl (by (try simp only [List.map_toArray, List.map_cons, List.map_nil]); first | done | rfl) ?_
      refine (HSRC.out _ HBB.out).mono ?_
      rintro e wm ⟨A2, c2, A5, c5, rfl, hl, hb⟩
      refine ⟨_, rfl, ?_⟩
      have HBOX := Aside0.mk ((hb.block _ (blk_lt HBOX.out)).trans HBOX.out)
      have HLI := Aside0.mk hl
      clear hl
      have n0_ := Aside0.mk (below_step HBB.out hb)
      clear HBB hHeld hb
      have HBB := n0_
      clear n0_
      refine hK.out _ _ HBB.out (fun hHeld => ?_)
      clear hK K
      refine norm_ (a' := ?_) ?_ ?_
      rotate_left
      · show Act.put _ (some 116) _ = _
        simp only [Act.put, List.setIfInBounds_toArray, List.set_cons_zero, List.set_cons_succ, i64_w, i32_w]
        rfl
      refine pure_ (i := 4) (N := (some 112)) (v := ?_) (a' := ?_) #[true, true, true, true, true, false, false, true, false, false] rfl rfl (any_of HT_.out (by kernel_rfl)) (fun _ _ _ h => HP.out _ _ _ _ _ h) (Or.inl ⟨by rfl, ?_⟩) ?_ ?_
      rotate_left; (intro w'; go_simp; with_reducible rfl)
      rotate_left; (simp only [Act.put, List.setIfInBounds_toArray, List.set_cons_zero, List.set_cons_succ, i64_w, i32_w]; rfl)
      refine pure_ (i := 5) (N := (some 117)) (v := ?_) (a' := ?_) #[true, true, true, true, true, true, false, true, false, false] rfl rfl (any_of HT_.out (by kernel_rfl)) (fun _ _ _ h => HP.out _ _ _ _ _ h) (Or.inl ⟨by rfl, ?_⟩) ?_ ?_
      rotate_left; (intro w'; go_simp; with_reducible rfl)
      rotate_left; (simp only [Act.put, List.setIfInBounds_toArray, List.set_cons_zero, List.set_cons_succ, i64_w, i32_w]; rfl)
      refine pure_ (i := 6) (N := (some 118)) (v := ?_) (a' := ?_) #[true, true, true, true, true, true, true, true, false, false] rfl rfl (any_of HT_.out (by kernel_rfl)) (fun _ _ _ h => HP.out _ _ _ _ _ h) (Or.inl ⟨by rfl, ?_⟩) ?_ ?_
      rotate_left; (intro w'; go_simp; with_reducible rfl)
      rotate_left; (simp only [Act.put, List.setIfInBounds_toArray, List.set_cons_zero, List.set_cons_succ, i64_w, i32_w]; rfl)
      have hj := HJ (A2, c2, A5, c5, gb) _ ⟨HBB.out, HBOX.out, HGE.out, HLI.out⟩
      refine norm_ ?_ hj
      rfl
  case hc =>
    rintro ⟨A2, c2, A5, c5, gb⟩ wj ⟨hbj, hzj, hgj, hlj⟩
    refine norm_ (a' := ?_) ?_ ?_
    rotate_left
    · show putAll _ _ = _
      simp only [putAll, Act.put, List.setIfInBounds_toArray, List.set_cons_zero, List.set_cons_succ]
      rfl
    obtain ⟨e0, e1, e2, e3, e4, e5⟩ := six_cells hzj
    obtain ⟨z0, z1, z2, z3, z4, z5⟩ := six_live hzj
    refine last_ (i := 8) (N := none) #[true, true, true, true, true, true, true, true, true, false] rfl rfl (one_of HT_.out (by kernel_rfl)) (by decide) (fun K hK => ?_)
    refine skip_ (w1 := ?_) (by rfl) rfl ?_ ?_
    rotate_left
    · go_simp
      rfl
    refine hK.out _ _ ?_
    clear hK K
    refine pure_ (i := 9) (N := (some 25)) (v := ?_) (a' := ?_) #[true, true, true, true, true, true, true, true, true, true] rfl rfl (any_of HT_.out (by kernel_rfl)) (fun _ _ _ h => HP.out _ _ _ _ _ h) (Or.inl ⟨by rfl, ?_⟩) ?_ ?_
    rotate_left; (intro w'; go_simp; with_reducible rfl)
    rotate_left; (simp only [Act.put, List.setIfInBounds_toArray, List.set_cons_zero, List.set_cons_succ, i64_w, i32_w]; rfl)
    refine done_ (done_of HT_.out (by kernel_rfl)) ?_
    exact HQ.out A2 c2 A5 c5 gb _ (below_six hbj hgj) hgj ⟨six_put hzj, hlj.six hzj _ _ _ _ _ _⟩
end Go.Proofs.YthdmacdeefohkaaSrcRegC
