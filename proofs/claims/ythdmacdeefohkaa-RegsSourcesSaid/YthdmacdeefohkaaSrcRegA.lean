/- RegsSources: SrcRegA. -/
import Derived.Test.YthdmacdeefohkaaAwake21
import Derived.Deep.RegionHeld3
namespace Go.Proofs.YthdmacdeefohkaaSrcRegA
open Go.RowKit Go.Proofs.YthdmacdeefohkaaW.PrintWords Go.Proofs.YthdmacdeefohkaaW.PrintLast Go.Proofs.YthdmacdeefohkaaW.PrintMore Go.Proofs.YthdmacdeefohkaaMem Go.Proofs.YthdmacdeefohkaaLeaf Go.Proofs.YthdmacdeefohkaaBits Go.Proofs.Ythdmacdeefohkaa.PMa Go.Proofs.YthdmacdeefohkaaMTerm Go.Proofs.YthdmacdeefohkaaMVal Go.Proofs.YthdmacdeefohkaaIntT Go.Proofs.YthdmacdeefohkaaRegs Go.Proofs.YthdmacdeefohkaaStands Go.Proofs.YthdmacdeefohkaaSource Go.Proofs.YthdmacdeefohkaaNew Go.Proofs.YthdmacdeefohkaaArgs Go.Proofs.YthdmacdeefohkaaAwake21 Go.Proofs
set_option linter.unusedVariables false
set_option linter.unusedSimpArgs false
/-- The law's world behind the loop: the registers, a frame. -/
structure Ls (V Y : World) (gr gf : Nat) (CS F : Array Value) : Prop where
  b : Below V.heap.size V Y
  r : Y.heap[gr]? = some (.cells CS 70 (0, 0))
  f : Y.heap[gf]? = some (.cells F 73 (0, 0))
  ger : V.heap.size ≤ gr
  gef : V.heap.size ≤ gf
theorem Ls.below {V Y Y1 : World} {gr gf : Nat} {CS F : Array Value} (h : Ls V Y gr gf CS F) (hb : Below Y.heap.size Y Y1) : Ls V Y1 gr gf CS F :=
  ⟨below_step h.b hb, (hb.block _ (blk_lt h.r)).trans h.r, (hb.block _ (blk_lt h.f)).trans h.f, h.ger, h.gef⟩
/-- A flat term in a box. -/
def BoxF (W : World) (g : Nat) (x : S45) (A2 : Option Addr) (c2 : Nat) (A5 : Option Addr) (c5 : Nat) : Prop := W.heap[g]? = some (.cells (cellsT x A2 c2 A5 c5) 45 (0, 0)) ∧ LiesF W x A2 c2 A5 c5
theorem BoxF.below {W W1 : World} {g : Nat} {x : S45} {A2 : Option Addr} {c2 : Nat} {A5 : Option Addr} {c5 : Nat} (h : BoxF W g x A2 c2 A5 c5) (hb : Below W.heap.size W W1) : BoxF W1 g x A2 c2 A5 c5 :=
  ⟨(hb.block _ (blk_lt h.1)).trans h.1, h.2.below hb⟩
def T10 : Bool × List (List Nat × List Nat) := (true, [([], []), ([], []), ([], []), ([2], [2]), ([0, 1, 3, 3], [0, 1, 3]), ([4], [4]), ([5], [5]), ([5], [5]), ([], []), ([8, 6, 4, 0, 1, 2, 3, 4, 5, 6, 8], [6, 8]), ([7, 9, 0, 1, 2, 3, 4, 5, 6, 7, 8, 9], [7])])
def B10 : List Nat := [0, 0, 0, 4, 15, 31, 63, 63, 0, 383, 1023]
def O10 : Array Oper := #[{ dst := some 62, op := Op.load 70 (Operand.tmp 9), type := 70, pos := "outright.go:19", after := #[], guard := none }, { dst := some 63, op := Op.load 66 (Operand.tmp 7), type := 66, pos := "outright.go:19", after := #[], guard := none }, { dst := some 64, op := Op.move (Operand.tmp 10), type := 3, pos := "outright.go:19", after := #[], guard := none }, { dst := some 65, op := Op.call { callee := Callee.value (Operand.func 48), args := #[Operand.tmp 64], argTypes := #[3] }, type := 77, pos := "outright.go:19", after := #[{ on := 2, ground := Ground.data }], guard := none }, { dst := some 66, op := Op.call { callee := Callee.value (Operand.func 47), args := #[Operand.tmp 62, Operand.tmp 63, Operand.tmp 65], argTypes := #[70, 66, 77] }, type := 46, pos := "outright.go:19", after := #[{ on := 0, ground := Ground.data }, { on := 1, ground := Ground.data }, { on := 3, ground := Ground.data }, { on := 3, ground := Ground.chain }], guard := none }, { dst := some 61, op := Op.move (Operand.tmp 66), type := 46, pos := "outright.go:19", after := #[{ on := 4, ground := Ground.data }], guard := none }, { dst := some 67, op := Op.extract (Operand.tmp 61) 0, type := 45, pos := "outright.go:19", after := #[{ on := 5, ground := Ground.data }], guard := none }, { dst := some 68, op := Op.extract (Operand.tmp 61) 1, type := 4, pos := "outright.go:19", after := #[{ on := 5, ground := Ground.data }, { on := 9, ground := Ground.gcOnly Departure.lateStores }], guard := none }, { dst := some 12, op := Op.alloc 45, type := 0, pos := "outright.go:19", after := #[], guard := none }, { dst := none, op := Op.store 45 (Operand.tmp 12) (Operand.tmp 67), type := 0, pos := "outright.go:19", after := #[{ on := 8, ground := Ground.data }, { on := 6, ground := Ground.data }, { on := 4, ground := Ground.chain }, { on := 0, ground := Ground.phase }, { on := 1, ground := Ground.phase }, { on := 2, ground := Ground.phase }, { on := 3, ground := Ground.phase }, { on := 4, ground := Ground.phase }, { on := 5, ground := Ground.phase }, { on := 6, ground := Ground.phase }, { on := 7, ground := Ground.textOnly Departure.lateStores }, { on := 8, ground := Ground.phase }], guard := none }, { dst := some 13, op := Op.assign (Operand.tmp 68), type := 4, pos := "outright.go:19", after := #[{ on := 7, ground := Ground.data }, { on := 9, ground := Ground.chain }, { on := 0, ground := Ground.phase }, { on := 1, ground := Ground.phase }, { on := 2, ground := Ground.phase }, { on := 3, ground := Ground.phase }, { on := 4, ground := Ground.phase }, { on := 5, ground := Ground.phase }, { on := 6, ground := Ground.phase }, { on := 7, ground := Ground.phase }, { on := 8, ground := Ground.phase }, { on := 9, ground := Ground.phase }], guard := none }]
theorem tab10 : rtab .any O10 = T10 := by kernel_rfl
theorem bits10 : waitsOk T10.2 B10 = true := by kernel_rfl
def T11 : Bool × List (List Nat × List Nat) := (true, [([], []), ([], []), ([], []), ([2], [2]), ([0, 1, 3, 3], [0, 1, 3]), ([4], [4]), ([5], [5]), ([5], [5]), ([], []), ([8, 6, 4, 0, 1, 2, 3, 4, 5, 6, 8], [6, 8]), ([7, 9, 0, 1, 2, 3, 4, 5, 6, 7, 8, 9], [7])])
def B11 : List Nat := [0, 0, 0, 4, 15, 31, 63, 63, 0, 383, 1023]
def O11 : Array Oper := #[{ dst := some 70, op := Op.load 70 (Operand.tmp 9), type := 70, pos := "outright.go:20", after := #[], guard := none }, { dst := some 71, op := Op.load 66 (Operand.tmp 7), type := 66, pos := "outright.go:20", after := #[], guard := none }, { dst := some 72, op := Op.move (Operand.tmp 10), type := 3, pos := "outright.go:20", after := #[], guard := none }, { dst := some 73, op := Op.call { callee := Callee.value (Operand.func 49), args := #[Operand.tmp 72], argTypes := #[3] }, type := 77, pos := "outright.go:20", after := #[{ on := 2, ground := Ground.data }], guard := none }, { dst := some 74, op := Op.call { callee := Callee.value (Operand.func 47), args := #[Operand.tmp 70, Operand.tmp 71, Operand.tmp 73], argTypes := #[70, 66, 77] }, type := 46, pos := "outright.go:20", after := #[{ on := 0, ground := Ground.data }, { on := 1, ground := Ground.data }, { on := 3, ground := Ground.data }, { on := 3, ground := Ground.chain }], guard := none }, { dst := some 69, op := Op.move (Operand.tmp 74), type := 46, pos := "outright.go:20", after := #[{ on := 4, ground := Ground.data }], guard := none }, { dst := some 75, op := Op.extract (Operand.tmp 69) 0, type := 45, pos := "outright.go:20", after := #[{ on := 5, ground := Ground.data }], guard := none }, { dst := some 76, op := Op.extract (Operand.tmp 69) 1, type := 4, pos := "outright.go:20", after := #[{ on := 5, ground := Ground.data }, { on := 9, ground := Ground.gcOnly Departure.lateStores }], guard := none }, { dst := some 14, op := Op.alloc 45, type := 0, pos := "outright.go:20", after := #[], guard := none }, { dst := none, op := Op.store 45 (Operand.tmp 14) (Operand.tmp 75), type := 0, pos := "outright.go:20", after := #[{ on := 8, ground := Ground.data }, { on := 6, ground := Ground.data }, { on := 4, ground := Ground.chain }, { on := 0, ground := Ground.phase }, { on := 1, ground := Ground.phase }, { on := 2, ground := Ground.phase }, { on := 3, ground := Ground.phase }, { on := 4, ground := Ground.phase }, { on := 5, ground := Ground.phase }, { on := 6, ground := Ground.phase }, { on := 7, ground := Ground.textOnly Departure.lateStores }, { on := 8, ground := Ground.phase }], guard := none }, { dst := some 15, op := Op.assign (Operand.tmp 76), type := 4, pos := "outright.go:20", after := #[{ on := 7, ground := Ground.data }, { on := 9, ground := Ground.chain }, { on := 0, ground := Ground.phase }, { on := 1, ground := Ground.phase }, { on := 2, ground := Ground.phase }, { on := 3, ground := Ground.phase }, { on := 4, ground := Ground.phase }, { on := 5, ground := Ground.phase }, { on := 6, ground := Ground.phase }, { on := 7, ground := Ground.phase }, { on := 8, ground := Ground.phase }, { on := 9, ground := Ground.phase }], guard := none }]
theorem tab11 : rtab .any O11 = T11 := by kernel_rfl
theorem bits11 : waitsOk T11.2 B11 = true := by kernel_rfl
set_option maxHeartbeats 16000000 in
set_option maxRecDepth 100000 in
theorem reg10 {u0 u1 u2 u3 u4 u5 u6 u7 u8 u9 u10 u11 u12 u13 u14 u15 u16 u17 u18 u19 u20 u21 u22 u23 u24 u25 u26 u27 u28 u29 u30 u31 u32 u33 u34 u35 u36 u37 u38 u39 u40 u41 u42 u43 u44 u45 u46 u47 u48 u49 u50 u51 u52 u53 u54 u55 u56 u57 u58 u59 u60 u61 u62 u63 u64 u65 u66 u67 u68 u69 u70 u71 u72 u73 u74 u75 u76 u77 u78 u79 u80 u81 u82 u83 u84 u85 u86 u87 u88 u89 u90 u91 u92 u93 u94 u95 u96 u97 u98 u99 u100 u101 u102 u103 u104 u105 u106 u107 u108 u109 u110 u111 u112 u113 u114 u115 u116 u117 u118 u119 u120 u121 u122 u123 u124 u125 u126 u127 u128 u129 u130 u131 u132 u133 u134 u135 u136 u137 u138 u139 u140 u141 u142 u143 u144 u145 u146 u147 u148 u149 u150 u151 u152 u153 u154 u155 u156 u157 u158 u159 u160 u161 u162 u163 u164 u165 u166 u167 u168 u169 u170 u171 u172 u173 u174 u175 u176 u177 u178 u179 u180 u181 u182 u183 u184 u185 u186 u187 u188 u189 u190 u191 u192 u193 u194 u195 u196 u197 u198 u199 u200 u201 u202 u203 u204 u205 u206 u207 u208 u209 u210 : Value} {Q : Exit → Act → World → Prop} (hP : ∀ c (a : Act) d v w, Q (.panic c) (a.put d v) w → Q (.panic c) a w) {V Y : World} {gr gf gm : Nat} {i v : Int} {CS F MS : Array Value} (hl : Ls V Y gr gf CS F) (hm : Y.heap[gm]? = some (.cells MS 66 (0, 0))) (hcs : CS.size = 101) (hms : MS.size = 6) {y : S45} {b : Bool}
    (hsrc : ∀ W, Below Y.heap.size Y W → Calls Try.prog 47 #[.agg CS, .agg MS, .agg #[.int .i64 3, .int .i64 i, .slice none 0 0]] W (Srcd LiesF y b W))
    (hQ : ∀ A2 c2 A5 c5 gb W1, Below Y.heap.size Y W1 → Y.heap.size ≤ gb → BoxF W1 gb y A2 c2 A5 c5 → Q .normal ⟨#[u0, u1, u2, u3, u4, u5, u6, .pointer (some ⟨gm, 0, none⟩), u8, .pointer (some ⟨gr, 0, none⟩), .int .i64 i, u11, .pointer (some ⟨gb, 0, none⟩), .bool b, u14, u15, u16, u17, u18, u19, u20, u21, u22, u23, u24, u25, u26, u27, u28, u29, u30, u31, u32, u33, u34, u35, u36, u37, u38, u39, u40, u41, u42, u43, u44, u45, u46, u47, u48, u49, u50, u51, u52, u53, u54, u55, u56, u57, u58, u59, u60, .tuple #[.agg #[.int .i64 y.f0, .bool y.f1.f0, .slice A2 y.f1.f1.length c2, .string y.f2, .int .i64 y.f3, .slice A5 y.f4.length c5], .bool b], .agg CS, .agg MS, (.int .i64 i), .agg #[.int .i64 3, .int .i64 i, .slice none 0 0], .tuple #[.agg #[.int .i64 y.f0, .bool y.f1.f0, .slice A2 y.f1.f1.length c2, .string y.f2, .int .i64 y.f3, .slice A5 y.f4.length c5], .bool b], .agg #[.int .i64 y.f0, .bool y.f1.f0, .slice A2 y.f1.f1.length c2, .string y.f2, .int .i64 y.f3, .slice A5 y.f4.length c5], .bool b, u69, u70, u71, u72, u73, u74, u75, u76, u77, u78, u79, u80, u81, u82, u83, u84, u85, u86, u87, u88, u89, u90, u91, u92, u93, u94, u95, u96, u97, u98, u99, u100, u101, u102, u103, u104, u105, u106, u107, u108, u109, u110, u111, u112, u113, u114, u115, u116, u117, u118, u119, u120, u121, u122, u123, u124, u125, u126, u127, u128, u129, u130, u131, u132, u133, u134, u135, u136, u137, u138, u139, u140, u141, u142, u143, u144, u145, u146, u147, u148, u149, u150, u151, u152, u153, u154, u155, u156, u157, u158, u159, u160, u161, u162, u163, u164, u165, u166, u167, u168, u169, u170, u171, u172, u173, u174, u175, u176, u177, u178, u179, u180, u181, u182, u183, u184, u185, u186, u187, u188, u189, u190, u191, u192, u193, u194, u195, u196, u197, u198, u199, u200, u201, u202, u203, u204, u205, u206, u207, u208, u209, u210], []⟩ W1) :
    (Code.region 10 O10 true).wp Try.prog Q ⟨#[u0, u1, u2, u3, u4, u5, u6, .pointer (some ⟨gm, 0, none⟩), u8, .pointer (some ⟨gr, 0, none⟩), .int .i64 i, u11, u12, u13, u14, u15, u16, u17, u18, u19, u20, u21, u22, u23, u24, u25, u26, u27, u28, u29, u30, u31, u32, u33, u34, u35, u36, u37, u38, u39, u40, u41, u42, u43, u44, u45, u46, u47, u48, u49, u50, u51, u52, u53, u54, u55, u56, u57, u58, u59, u60, u61, u62, u63, u64, u65, u66, u67, u68, u69, u70, u71, u72, u73, u74, u75, u76, u77, u78, u79, u80, u81, u82, u83, u84, u85, u86, u87, u88, u89, u90, u91, u92, u93, u94, u95, u96, u97, u98, u99, u100, u101, u102, u103, u104, u105, u106, u107, u108, u109, u110, u111, u112, u113, u114, u115, u116, u117, u118, u119, u120, u121, u122, u123, u124, u125, u126, u127, u128, u129, u130, u131, u132, u133, u134, u135, u136, u137, u138, u139, u140, u141, u142, u143, u144, u145, u146, u147, u148, u149, u150, u151, u152, u153, u154, u155, u156, u157, u158, u159, u160, u161, u162, u163, u164, u165, u166, u167, u168, u169, u170, u171, u172, u173, u174, u175, u176, u177, u178, u179, u180, u181, u182, u183, u184, u185, u186, u187, u188, u189, u190, u191, u192, u193, u194, u195, u196, u197, u198, u199, u200, u201, u202, u203, u204, u205, u206, u207, u208, u209, u210], []⟩ Y := by
  unfold O10
  have hu45 := Try.underlying45
  have hu70 := Try.underlying70
  have hu66 := Try.underlying66
  have HLS := Aside0.mk hl
  have HMY := Aside0.mk hm
  have HSRC := Aside0.mk hsrc
  have HQ := Aside0.mk hQ
  have HP := Aside0.mk hP
  have HSZ := Aside0.mk (show (Try.prog.info? 70).map (·.size) = some CS.size by rw [hcs]; kernel_rfl)
  have HSM := Aside0.mk (show (Try.prog.info? 66).map (·.size) = some MS.size by rw [hms]; kernel_rfl)
  clear hl hm hsrc hQ hP
  have HBB := Aside0.mk (below_drew (Below.refl Y.heap.size Y))
  refine start_ (n := 11) (S := fun w' => Below Y.heap.size Y w') (ds := [9]) #[false, false, false, false, false, false, false, false, false, false, false] (by kernel_rfl) rfl rfl HBB.out (fun hHeld => ?_); refine with_tabW tab10 bits10 (fun HT_ HW_ => ?_)
  generalize Y.drew = wd at HBB hHeld ⊢
  refine take_ (i := 0) (N := (some 62)) (v := (.agg CS)) (a' := ?_) #[true, false, false, false, false, false, false, false, false, false, false] rfl rfl (take_ofW HT_.out HW_.out (by kernel_rfl)) (fun _ _ _ h => HP.out _ _ _ _ _ h) (Or.inl ⟨by rfl, ?_⟩) hHeld ?_ ?_
  · (intro w' hs; exact exec_load_row 70 (.tmp 9) rfl gr (by rfl) 70 CS (0, 0) _ ((hs.block _ (blk_lt HLS.out.r)).trans HLS.out.r) hu70 rfl HSZ.out)
  rotate_left; (simp only [Act.put, List.setIfInBounds_toArray, List.set_cons_zero, List.set_cons_succ, i64_w, i32_w]; rfl)
  refine take_ (i := 1) (N := (some 63)) (v := (.agg MS)) (a' := ?_) #[true, true, false, false, false, false, false, false, false, false, false] rfl rfl (take_ofW HT_.out HW_.out (by kernel_rfl)) (fun _ _ _ h => HP.out _ _ _ _ _ h) (Or.inl ⟨by rfl, ?_⟩) hHeld ?_ ?_
  · (intro w' hs; exact exec_load_row 66 (.tmp 7) rfl gm (by rfl) 66 MS (0, 0) _ ((hs.block _ (blk_lt HMY.out)).trans HMY.out) hu66 rfl HSM.out)
  rotate_left; (simp only [Act.put, List.setIfInBounds_toArray, List.set_cons_zero, List.set_cons_succ, i64_w, i32_w]; rfl)
  refine pure_ (i := 2) (N := (some 64)) (v := (.int .i64 i)) (a' := ?_) #[true, true, true, false, false, false, false, false, false, false, false] rfl rfl (any_of HT_.out (by kernel_rfl)) (fun _ _ _ h => HP.out _ _ _ _ _ h) (Or.inl ⟨by rfl, ?_⟩) ?_ ?_
  · (intro w'; go_simp; all_goals (first | with_reducible rfl | (congr 3; omega) | (simp only [i64_w]; congr 3; unfold wrap64; omega) | (rw [hi])))
  rotate_left; (simp only [Act.put, List.setIfInBounds_toArray, List.set_cons_zero, List.set_cons_succ, i64_w, i32_w]; rfl)
  refine join_ (σ := Option Addr × Nat × Option Addr × Nat × Nat) 2 #[true, true, true, true, true, true, true, true, true, false, false] (fun s => [(65, .agg #[.int .i64 3, .int .i64 i, .slice none 0 0]), (66, .tuple #[.agg #[.int .i64 y.f0, .bool y.f1.f0, .slice s.1 y.f1.f1.length s.2.1, .string y.f2, .int .i64 y.f3, .slice s.2.2.1 y.f4.length s.2.2.2.1], .bool b]), (61, .tuple #[.agg #[.int .i64 y.f0, .bool y.f1.f0, .slice s.1 y.f1.f1.length s.2.1, .string y.f2, .int .i64 y.f3, .slice s.2.2.1 y.f4.length s.2.2.2.1], .bool b]), (67, .agg #[.int .i64 y.f0, .bool y.f1.f0, .slice s.1 y.f1.f1.length s.2.1, .string y.f2, .int .i64 y.f3, .slice s.2.2.1 y.f4.length s.2.2.2.1]), (68, .bool b), (12, .pointer (some ⟨s.2.2.2.2, 0, none⟩))]) (fun s w1 => Below Y.heap.size Y w1 ∧ w1.heap[s.2.2.2.2]? = some (.cells #[.int .i64 0, .bool false, .slice none 0 0, .string ⟨#[]⟩, .int .i64 0, .slice none 0 0] 45 (0, 0)) ∧ Y.heap.size ≤ s.2.2.2.2 ∧ LiesF w1 y s.1 s.2.1 s.2.2.1 s.2.2.2.1) ?hc ?hh
  case hh =>
    intro HJ
    refine two_ (i := 3) (j := 8) (Ni := (some 65)) (Nj := (some 12)) #[true, true, true, true, false, false, false, false, false, false, false] #[true, true, true, false, false, false, false, false, true, false, false] rfl rfl rfl rfl (two_of HT_.out (by kernel_rfl)) (by decide) (by decide) (fun K hK => ?_) (fun K hK => ?_)
    · skip
      refine goes_ Try.func48 (by kernel_rfl) rfl #[.int .i64 i] (by rfl) rfl rfl (by (try simp only [List.map_toArray, List.map_cons, List.map_nil]); first | done | rfl) ?_
      refine (arg_X _ i).mono ?_
      rintro e wn ⟨rfl, hb⟩
      refine ⟨_, rfl, ?_⟩
      have n0_ := Aside0.mk (below_step HBB.out hb)
      clear HBB hHeld hb
      have HBB := n0_
      clear n0_
      refine hK.out _ _ HBB.out (fun hHeld => ?_)
      clear hK K
      refine norm_ (a' := ?_) ?_ ?_
      rotate_left
      · show Act.put _ (some 65) _ = _
        simp only [Act.put, List.setIfInBounds_toArray, List.set_cons_zero, List.set_cons_succ, i64_w, i32_w]
        rfl
      refine two_ (i := 4) (j := 8) (Ni := (some 66)) (Nj := (some 12)) #[true, true, true, true, true, false, false, false, false, false, false] #[true, true, true, true, false, false, false, false, true, false, false] rfl rfl rfl rfl (two_of HT_.out (by kernel_rfl)) (by decide) (by decide) (fun K hK => ?_) (fun K hK => ?_)
      · skip
        refine goes_ Try.func47 (by kernel_rfl) rfl #[.agg CS, .agg MS, .agg #[.int .i64 3, .int .i64 i, .slice none 0 0]] (by rfl) rfl rfl (by (try simp only [List.map_toArray, List.map_cons, List.map_nil]); first | done | rfl) ?_
        refine (HSRC.out _ HBB.out).mono ?_
        rintro e wm ⟨A2, c2, A5, c5, rfl, hl, hb⟩
        refine ⟨_, rfl, ?_⟩
        have HLI := Aside0.mk hl
        clear hl
        have n0_ := Aside0.mk (below_step HBB.out hb)
        clear HBB hHeld hb
        have HBB := n0_
        clear n0_
        refine hK.out _ _ HBB.out (fun hHeld => ?_)
        clear hK K
        refine norm_ (a' := ?_) ?_ ?_
        rotate_left
        · show Act.put _ (some 66) _ = _
          simp only [Act.put, List.setIfInBounds_toArray, List.set_cons_zero, List.set_cons_succ, i64_w, i32_w]
          rfl
        refine pure_ (i := 5) (N := (some 61)) (v := ?_) (a' := ?_) #[true, true, true, true, true, true, false, false, false, false, false] rfl rfl (any_of HT_.out (by kernel_rfl)) (fun _ _ _ h => HP.out _ _ _ _ _ h) (Or.inl ⟨by rfl, ?_⟩) ?_ ?_
        rotate_left; (intro w'; go_simp; with_reducible rfl)
        rotate_left; (simp only [Act.put, List.setIfInBounds_toArray, List.set_cons_zero, List.set_cons_succ, i64_w, i32_w]; rfl)
        refine pure_ (i := 6) (N := (some 67)) (v := ?_) (a' := ?_) #[true, true, true, true, true, true, true, false, false, false, false] rfl rfl (any_of HT_.out (by kernel_rfl)) (fun _ _ _ h => HP.out _ _ _ _ _ h) (Or.inl ⟨by rfl, ?_⟩) ?_ ?_
        rotate_left; (intro w'; go_simp; with_reducible rfl)
        rotate_left; (simp only [Act.put, List.setIfInBounds_toArray, List.set_cons_zero, List.set_cons_succ, i64_w, i32_w]; rfl)
        refine pure_ (i := 7) (N := (some 68)) (v := ?_) (a' := ?_) #[true, true, true, true, true, true, true, true, false, false, false] rfl rfl (any_of HT_.out (by kernel_rfl)) (fun _ _ _ h => HP.out _ _ _ _ _ h) (Or.inl ⟨by rfl, ?_⟩) ?_ ?_
        rotate_left; (intro w'; go_simp; with_reducible rfl)
        rotate_left; (simp only [Act.put, List.setIfInBounds_toArray, List.set_cons_zero, List.set_cons_succ, i64_w, i32_w]; rfl)
        refine one_ (i := 8) (N := (some 12)) #[true, true, true, true, true, true, true, true, true, false, false] rfl rfl (one_of HT_.out (by kernel_rfl)) (by decide) (fun K hK => ?_)
        refine box_step ?hg (N := 12) ?hd (cs := #[.int .i64 0, .bool false, .slice none 0 0, .string ⟨#[]⟩, .int .i64 0, .slice none 0 0]) (t := 45) ?hr ?_; (case hd => rfl); (case hg => rfl); (case hr => first | (go_simp; done) | (go_simp; rfl))
        intro gb hg wo hbox hb
        have HLI := Aside0.mk (HLI.out.below hb)
        have n0_ := Aside0.mk (below_step HBB.out hb)
        have HBOX := Aside0.mk hbox
        have HGE := Aside0.mk (show Y.heap.size ≤ gb by rw [hg]; exact HBB.out.size)
        clear HBB hHeld hb hbox hg
        have HBB := n0_
        clear n0_
        refine hK.out _ _ HBB.out (fun hHeld => ?_)
        clear hK K
        refine norm_ (a' := ?_) ?_ ?_
        rotate_left
        · show Act.put _ (some 12) _ = _
          simp only [Act.put, List.setIfInBounds_toArray, List.set_cons_zero, List.set_cons_succ, i64_w, i32_w]
          rfl
        have hj := HJ (A2, c2, A5, c5, gb) _ ⟨HBB.out, HBOX.out, HGE.out, HLI.out⟩
        refine norm_ ?_ hj
        rfl
      · skip
        refine box_step ?hg (N := 12) ?hd (cs := #[.int .i64 0, .bool false, .slice none 0 0, .string ⟨#[]⟩, .int .i64 0, .slice none 0 0]) (t := 45) ?hr ?_; (case hd => rfl); (case hg => rfl); (case hr => first | (go_simp; done) | (go_simp; rfl))
        intro gb hg wo hbox hb
        have n0_ := Aside0.mk (below_step HBB.out hb)
        have HBOX := Aside0.mk hbox
        have HGE := Aside0.mk (show Y.heap.size ≤ gb by rw [hg]; exact HBB.out.size)
        clear HBB hHeld hb hbox hg
        have HBB := n0_
        clear n0_
        refine hK.out _ _ HBB.out (fun hHeld => ?_)
        clear hK K
        refine norm_ (a' := ?_) ?_ ?_
        rotate_left
        · show Act.put _ (some 12) _ = _
          simp only [Act.put, List.setIfInBounds_toArray, List.set_cons_zero, List.set_cons_succ, i64_w, i32_w]
          rfl
        refine one_ (i := 4) (N := (some 66)) #[true, true, true, true, true, false, false, false, true, false, false] rfl rfl (one_of HT_.out (by kernel_rfl)) (by decide) (fun K hK => ?_)
        refine goes_ Try.func47 (by kernel_rfl) rfl #[.agg CS, .agg MS, .agg #[.int .i64 3, .int .i64 i, .slice none 0 0]] (by rfl) rfl rfl (by (try simp only [List.map_toArray, List.map_cons, List.map_nil]); first | done | rfl) ?_
        refine (HSRC.out _ HBB.out).mono ?_
        rintro e wm ⟨A2, c2, A5, c5, rfl, hl, hb⟩
        refine ⟨_, rfl, ?_⟩
        have HBOX := Aside0.mk ((hb.block _ (blk_lt HBOX.out)).trans HBOX.out)
        have HLI := Aside0.mk hl
        clear hl
        have n0_ := Aside0.mk (below_step HBB.out hb)
        clear HBB hHeld hb
        have HBB := n0_
        clear n0_
        refine hK.out _ _ HBB.out (fun hHeld => ?_)
        clear hK K
        refine norm_ (a' := ?_) ?_ ?_
        rotate_left
        · show Act.put _ (some 66) _ = _
          simp only [Act.put, List.setIfInBounds_toArray, List.set_cons_zero, List.set_cons_succ, i64_w, i32_w]
          rfl
        refine pure_ (i := 5) (N := (some 61)) (v := ?_) (a' := ?_) #[true, true, true, true, true, true, false, false, true, false, false] rfl rfl (any_of HT_.out (by kernel_rfl)) (fun _ _ _ h => HP.out _ _ _ _ _ h) (Or.inl ⟨by rfl, ?_⟩) ?_ ?_
        rotate_left; (intro w'; go_simp; with_reducible rfl)
        rotate_left; (simp only [Act.put, List.setIfInBounds_toArray, List.set_cons_zero, List.set_cons_succ, i64_w, i32_w]; rfl)
        refine pure_ (i := 6) (N := (some 67)) (v := ?_) (a' := ?_) #[true, true, true, true, true, true, true, false, true, false, false] rfl rfl (any_of HT_.out (by kernel_rfl)) (fun _ _ _ h => HP.out _ _ _ _ _ h) (Or.inl ⟨by rfl, ?_⟩) ?_ ?_
        rotate_left; (intro w'; go_simp; with_reducible rfl)
        rotate_left; (simp only [Act.put, List.setIfInBounds_toArray, List.set_cons_zero, List.set_cons_succ, i64_w, i32_w]; rfl)
        refine pure_ (i := 7) (N := (some 68)) (v := ?_) (a' := ?_) #[true, true, true, true, true, true, true, true, true, false, false] rfl rfl (any_of HT_.out (by kernel_rfl)) (fun _ _ _ h => HP.out _ _ _ _ _ h) (Or.inl ⟨by rfl, ?_⟩) ?_ ?_
        rotate_left; (intro w'; go_simp; with_reducible rfl)
        rotate_left; (simp only [Act.put, List.setIfInBounds_toArray, List.set_cons_zero, List.set_cons_succ, i64_w, i32_w]; rfl)
        have hj := HJ (A2, c2, A5, c5, gb) _ ⟨HBB.out, HBOX.out, HGE.out, HLI.out⟩
        refine norm_ ?_ hj
        rfl
    · skip
      refine box_step ?hg (N := 12) ?hd (cs := #[.int .i64 0, .bool false, .slice none 0 0, .string ⟨#[]⟩, .int .i64 0, .slice none 0 0]) (t := 45) ?hr ?_; (case hd => rfl); (case hg => rfl); (case hr => first | (go_simp; done) | (go_simp; rfl))
      intro gb hg wo hbox hb
      have n0_ := Aside0.mk (below_step HBB.out hb)
      have HBOX := Aside0.mk hbox
      have HGE := Aside0.mk (show Y.heap.size ≤ gb by rw [hg]; exact HBB.out.size)
      clear HBB hHeld hb hbox hg
      have HBB := n0_
      clear n0_
      refine hK.out _ _ HBB.out (fun hHeld => ?_)
      clear hK K
      refine norm_ (a' := ?_) ?_ ?_
      rotate_left
      · show Act.put _ (some 12) _ = _
        simp only [Act.put, List.setIfInBounds_toArray, List.set_cons_zero, List.set_cons_succ, i64_w, i32_w]
        rfl
      refine one_ (i := 3) (N := (some 65)) #[true, true, true, true, false, false, false, false, true, false, false] rfl rfl (one_of HT_.out (by kernel_rfl)) (by decide) (fun K hK => ?_)
      refine goes_ Try.func48 (by kernel_rfl) rfl #[.int .i64 i] (by rfl) rfl rfl (by (try simp only [List.map_toArray, List.map_cons, List.map_nil]); first | done | rfl) ?_
      refine (arg_X _ i).mono ?_
      rintro e wn ⟨rfl, hb⟩
      refine ⟨_, rfl, ?_⟩
      have HBOX := Aside0.mk ((hb.block _ (blk_lt HBOX.out)).trans HBOX.out)
      have n0_ := Aside0.mk (below_step HBB.out hb)
      clear HBB hHeld hb
      have HBB := n0_
      clear n0_
      refine hK.out _ _ HBB.out (fun hHeld => ?_)
      clear hK K
      refine norm_ (a' := ?_) ?_ ?_
      rotate_left
      · show Act.put _ (some 65) _ = _
        simp only [Act.put, List.setIfInBounds_toArray, List.set_cons_zero, List.set_cons_succ, i64_w, i32_w]
        rfl
      refine one_ (i := 4) (N := (some 66)) #[true, true, true, true, true, false, false, false, true, false, false] rfl rfl (one_of HT_.out (by kernel_rfl)) (by decide) (fun K hK => ?_)
      refine goes_ Try.func47 (by kernel_rfl) rfl #[.agg CS, .agg MS, .agg #[.int .i64 3, .int .i64 i, .slice none 0 0]] (by rfl) rfl rfl (by (try simp only [List.map_toArray, List.map_cons, List.map_nil]); first | done | rfl) ?_
      refine (HSRC.out _ HBB.out).mono ?_
      rintro e wm ⟨A2, c2, A5, c5, rfl, hl, hb⟩
      refine ⟨_, rfl, ?_⟩
      have HBOX := Aside0.mk ((hb.block _ (blk_lt HBOX.out)).trans HBOX.out)
      have HLI := Aside0.mk hl
      clear hl
      have n0_ := Aside0.mk (below_step HBB.out hb)
      clear HBB hHeld hb
      have HBB := n0_
      clear n0_
      refine hK.out _ _ HBB.out (fun hHeld => ?_)
      clear hK K
      refine norm_ (a' := ?_) ?_ ?_
      rotate_left
      · show Act.put _ (some 66) _ = _
        simp only [Act.put, List.setIfInBounds_toArray, List.set_cons_zero, List.set_cons_succ, i64_w, i32_w]
        rfl
      refine pure_ (i := 5) (N := (some 61)) (v := ?_) (a' := ?_) #[true, true, true, true, true, true, false, false, true, false, false] rfl rfl (any_of HT_.out (by kernel_rfl)) (fun _ _ _ h => HP.out _ _ _ _ _ h) (Or.inl ⟨by rfl, ?_⟩) ?_ ?_
      rotate_left; (intro w'; go_simp; with_reducible rfl)
      rotate_left; (simp only [Act.put, List.setIfInBounds_toArray, List.set_cons_zero, List.set_cons_succ, i64_w, i32_w]; rfl)
      refine pure_ (i := 6) (N := (some 67)) (v := ?_) (a' := ?_) #[true, true, true, true, true, true, true, false, true, false, false] rfl rfl (any_of HT_.out (by kernel_rfl)) (fun _ _ _ h => HP.out _ _ _ _ _ h) (Or.inl ⟨by rfl, ?_⟩) ?_ ?_
      rotate_left; (intro w'; go_simp; with_reducible rfl)
      rotate_left; (simp only [Act.put, List.setIfInBounds_toArray, List.set_cons_zero, List.set_cons_succ, i64_w, i32_w]; rfl)
      refine pure_ (i := 7) (N := (some 68)) (v := ?_) (a' := ?_) #[true, true, true, true, true, true, true, true, true, false, false] rfl rfl (any_of HT_.out (by kernel_rfl)) (fun _ _ _ h => HP.out _ _ _ _ _ h) (Or.inl ⟨by rfl, ?_⟩) ?_ ?_
      rotate_left; (intro w'; go_simp; with_reducible rfl)
      rotate_left; (simp only [Act.put, List.setIfInBounds_toArray, List.set_cons_zero, List.set_cons_succ, i64_w, i32_w]; rfl)
      have hj := HJ (A2, c2, A5, c5, gb) _ ⟨HBB.out, HBOX.out, HGE.out, HLI.out⟩
      refine norm_ ?_ hj
      rfl
  case hc =>
    rintro ⟨A2, c2, A5, c5, gb⟩ wj ⟨hbj, hzj, hgj, hlj⟩
    refine norm_ (a' := ?_) ?_ ?_
    rotate_left
    · show putAll _ _ = _
      simp only [putAll, Act.put, List.setIfInBounds_toArray, List.set_cons_zero, List.set_cons_succ]
      rfl
    obtain ⟨e0, e1, e2, e3, e4, e5⟩ := six_cells hzj
    obtain ⟨z0, z1, z2, z3, z4, z5⟩ := six_live hzj
    refine last_ (i := 9) (N := none) #[true, true, true, true, true, true, true, true, true, true, false] rfl rfl (one_of HT_.out (by kernel_rfl)) (by decide) (fun K hK => ?_)
    refine skip_ (w1 := ?_) (by rfl) rfl ?_ ?_
    rotate_left
    · go_simp
      rfl
    refine hK.out _ _ ?_
    clear hK K
    refine pure_ (i := 10) (N := (some 13)) (v := ?_) (a' := ?_) #[true, true, true, true, true, true, true, true, true, true, true] rfl rfl (any_of HT_.out (by kernel_rfl)) (fun _ _ _ h => HP.out _ _ _ _ _ h) (Or.inl ⟨by rfl, ?_⟩) ?_ ?_
    rotate_left; (intro w'; go_simp; with_reducible rfl)
    rotate_left; (simp only [Act.put, List.setIfInBounds_toArray, List.set_cons_zero, List.set_cons_succ, i64_w, i32_w]; rfl)
    refine done_ (done_of HT_.out (by kernel_rfl)) ?_
    exact HQ.out A2 c2 A5 c5 gb _ (below_six hbj hgj) hgj ⟨six_put hzj, hlj.six hzj _ _ _ _ _ _⟩
set_option maxHeartbeats 16000000 in
set_option maxRecDepth 100000 in
theorem reg11 {u0 u1 u2 u3 u4 u5 u6 u7 u8 u9 u10 u11 u12 u13 u14 u15 u16 u17 u18 u19 u20 u21 u22 u23 u24 u25 u26 u27 u28 u29 u30 u31 u32 u33 u34 u35 u36 u37 u38 u39 u40 u41 u42 u43 u44 u45 u46 u47 u48 u49 u50 u51 u52 u53 u54 u55 u56 u57 u58 u59 u60 u61 u62 u63 u64 u65 u66 u67 u68 u69 u70 u71 u72 u73 u74 u75 u76 u77 u78 u79 u80 u81 u82 u83 u84 u85 u86 u87 u88 u89 u90 u91 u92 u93 u94 u95 u96 u97 u98 u99 u100 u101 u102 u103 u104 u105 u106 u107 u108 u109 u110 u111 u112 u113 u114 u115 u116 u117 u118 u119 u120 u121 u122 u123 u124 u125 u126 u127 u128 u129 u130 u131 u132 u133 u134 u135 u136 u137 u138 u139 u140 u141 u142 u143 u144 u145 u146 u147 u148 u149 u150 u151 u152 u153 u154 u155 u156 u157 u158 u159 u160 u161 u162 u163 u164 u165 u166 u167 u168 u169 u170 u171 u172 u173 u174 u175 u176 u177 u178 u179 u180 u181 u182 u183 u184 u185 u186 u187 u188 u189 u190 u191 u192 u193 u194 u195 u196 u197 u198 u199 u200 u201 u202 u203 u204 u205 u206 u207 u208 u209 u210 : Value} {Q : Exit → Act → World → Prop} (hP : ∀ c (a : Act) d v w, Q (.panic c) (a.put d v) w → Q (.panic c) a w) {V Y : World} {gr gf gm : Nat} {i v : Int} {CS F MS : Array Value} (hl : Ls V Y gr gf CS F) (hm : Y.heap[gm]? = some (.cells MS 66 (0, 0))) (hcs : CS.size = 101) (hms : MS.size = 6) {y : S45} {b : Bool}
    (hsrc : ∀ W, Below Y.heap.size Y W → Calls Try.prog 47 #[.agg CS, .agg MS, .agg #[.int .i64 6, .int .i64 i, .slice none 0 0]] W (Srcd LiesF y b W))
    (hQ : ∀ A2 c2 A5 c5 gb W1, Below Y.heap.size Y W1 → Y.heap.size ≤ gb → BoxF W1 gb y A2 c2 A5 c5 → Q .normal ⟨#[u0, u1, u2, u3, u4, u5, u6, .pointer (some ⟨gm, 0, none⟩), u8, .pointer (some ⟨gr, 0, none⟩), .int .i64 i, u11, u12, u13, .pointer (some ⟨gb, 0, none⟩), .bool b, u16, u17, u18, u19, u20, u21, u22, u23, u24, u25, u26, u27, u28, u29, u30, u31, u32, u33, u34, u35, u36, u37, u38, u39, u40, u41, u42, u43, u44, u45, u46, u47, u48, u49, u50, u51, u52, u53, u54, u55, u56, u57, u58, u59, u60, u61, u62, u63, u64, u65, u66, u67, u68, .tuple #[.agg #[.int .i64 y.f0, .bool y.f1.f0, .slice A2 y.f1.f1.length c2, .string y.f2, .int .i64 y.f3, .slice A5 y.f4.length c5], .bool b], .agg CS, .agg MS, (.int .i64 i), .agg #[.int .i64 6, .int .i64 i, .slice none 0 0], .tuple #[.agg #[.int .i64 y.f0, .bool y.f1.f0, .slice A2 y.f1.f1.length c2, .string y.f2, .int .i64 y.f3, .slice A5 y.f4.length c5], .bool b], .agg #[.int .i64 y.f0, .bool y.f1.f0, .slice A2 y.f1.f1.length c2, .string y.f2, .int .i64 y.f3, .slice A5 y.f4.length c5], .bool b, u77, u78, u79, u80, u81, u82, u83, u84, u85, u86, u87, u88, u89, u90, u91, u92, u93, u94, u95, u96, u97, u98, u99, u100, u101, u102, u103, u104, u105, u106, u107, u108, u109, u110, u111, u112, u113, u114, u115, u116, u117, u118, u119, u120, u121, u122, u123, u124, u125, u126, u127, u128, u129, u130, u131, u132, u133, u134, u135, u136, u137, u138, u139, u140, u141, u142, u143, u144, u145, u146, u147, u148, u149, u150, u151, u152, u153, u154, u155, u156, u157, u158, u159, u160, u161, u162, u163, u164, u165, u166, u167, u168, u169, u170, u171, u172, u173, u174, u175, u176, u177, u178, u179, u180, u181, u182, u183, u184, u185, u186, u187, u188, u189, u190, u191, u192, u193, u194, u195, u196, u197, u198, u199, u200, u201, u202, u203, u204, u205, u206, u207, u208, u209, u210], []⟩ W1) :
    (Code.region 11 O11 true).wp Try.prog Q ⟨#[u0, u1, u2, u3, u4, u5, u6, .pointer (some ⟨gm, 0, none⟩), u8, .pointer (some ⟨gr, 0, none⟩), .int .i64 i, u11, u12, u13, u14, u15, u16, u17, u18, u19, u20, u21, u22, u23, u24, u25, u26, u27, u28, u29, u30, u31, u32, u33, u34, u35, u36, u37, u38, u39, u40, u41, u42, u43, u44, u45, u46, u47, u48, u49, u50, u51, u52, u53, u54, u55, u56, u57, u58, u59, u60, u61, u62, u63, u64, u65, u66, u67, u68, u69, u70, u71, u72, u73, u74, u75, u76, u77, u78, u79, u80, u81, u82, u83, u84, u85, u86, u87, u88, u89, u90, u91, u92, u93, u94, u95, u96, u97, u98, u99, u100, u101, u102, u103, u104, u105, u106, u107, u108, u109, u110, u111, u112, u113, u114, u115, u116, u117, u118, u119, u120, u121, u122, u123, u124, u125, u126, u127, u128, u129, u130, u131, u132, u133, u134, u135, u136, u137, u138, u139, u140, u141, u142, u143, u144, u145, u146, u147, u148, u149, u150, u151, u152, u153, u154, u155, u156, u157, u158, u159, u160, u161, u162, u163, u164, u165, u166, u167, u168, u169, u170, u171, u172, u173, u174, u175, u176, u177, u178, u179, u180, u181, u182, u183, u184, u185, u186, u187, u188, u189, u190, u191, u192, u193, u194, u195, u196, u197, u198, u199, u200, u201, u202, u203, u204, u205, u206, u207, u208, u209, u210], []⟩ Y := by
  unfold O11
  have hu45 := Try.underlying45
  have hu70 := Try.underlying70
  have hu66 := Try.underlying66
  have HLS := Aside0.mk hl
  have HMY := Aside0.mk hm
  have HSRC := Aside0.mk hsrc
  have HQ := Aside0.mk hQ
  have HP := Aside0.mk hP
  have HSZ := Aside0.mk (show (Try.prog.info? 70).map (·.size) = some CS.size by rw [hcs]; kernel_rfl)
  have HSM := Aside0.mk (show (Try.prog.info? 66).map (·.size) = some MS.size by rw [hms]; kernel_rfl)
  clear hl hm hsrc hQ hP
  have HBB := Aside0.mk (below_drew (Below.refl Y.heap.size Y))
  refine start_ (n := 11) (S := fun w' => Below Y.heap.size Y w') (ds := [9]) #[false, false, false, false, false, false, false, false, false, false, false] (by kernel_rfl) rfl rfl HBB.out (fun hHeld => ?_); refine with_tabW tab11 bits11 (fun HT_ HW_ => ?_)
  generalize Y.drew = wd at HBB hHeld ⊢
  refine take_ (i := 0) (N := (some 70)) (v := (.agg CS)) (a' := ?_) #[true, false, false, false, false, false, false, false, false, false, false] rfl rfl (take_ofW HT_.out HW_.out (by kernel_rfl)) (fun _ _ _ h => HP.out _ _ _ _ _ h) (Or.inl ⟨by rfl, ?_⟩) hHeld ?_ ?_
  · (intro w' hs; exact exec_load_row 70 (.tmp 9) rfl gr (by rfl) 70 CS (0, 0) _ ((hs.block _ (blk_lt HLS.out.r)).trans HLS.out.r) hu70 rfl HSZ.out)
  rotate_left; (simp only [Act.put, List.setIfInBounds_toArray, List.set_cons_zero, List.set_cons_succ, i64_w, i32_w]; rfl)
  refine take_ (i := 1) (N := (some 71)) (v := (.agg MS)) (a' := ?_) #[true, true, false, false, false, false, false, false, false, false, false] rfl rfl (take_ofW HT_.out HW_.out (by kernel_rfl)) (fun _ _ _ h => HP.out _ _ _ _ _ h) (Or.inl ⟨by rfl, ?_⟩) hHeld ?_ ?_
  · (intro w' hs; exact exec_load_row 66 (.tmp 7) rfl gm (by rfl) 66 MS (0, 0) _ ((hs.block _ (blk_lt HMY.out)).trans HMY.out) hu66 rfl HSM.out)
  rotate_left; (simp only [Act.put, List.setIfInBounds_toArray, List.set_cons_zero, List.set_cons_succ, i64_w, i32_w]; rfl)
  refine pure_ (i := 2) (N := (some 72)) (v := (.int .i64 i)) (a' := ?_) #[true, true, true, false, false, false, false, false, false, false, false] rfl rfl (any_of HT_.out (by kernel_rfl)) (fun _ _ _ h => HP.out _ _ _ _ _ h) (Or.inl ⟨by rfl, ?_⟩) ?_ ?_
  · (intro w'; go_simp; all_goals (first | with_reducible rfl | (congr 3; omega) | (simp only [i64_w]; congr 3; unfold wrap64; omega) | (rw [hi])))
  rotate_left; (simp only [Act.put, List.setIfInBounds_toArray, List.set_cons_zero, List.set_cons_succ, i64_w, i32_w]; rfl)
  refine join_ (σ := Option Addr × Nat × Option Addr × Nat × Nat) 2 #[true, true, true, true, true, true, true, true, true, false, false] (fun s => [(73, .agg #[.int .i64 6, .int .i64 i, .slice none 0 0]), (74, .tuple #[.agg #[.int .i64 y.f0, .bool y.f1.f0, .slice s.1 y.f1.f1.length s.2.1, .string y.f2, .int .i64 y.f3, .slice s.2.2.1 y.f4.length s.2.2.2.1], .bool b]), (69, .tuple #[.agg #[.int .i64 y.f0, .bool y.f1.f0, .slice s.1 y.f1.f1.length s.2.1, .string y.f2, .int .i64 y.f3, .slice s.2.2.1 y.f4.length s.2.2.2.1], .bool b]), (75, .agg #[.int .i64 y.f0, .bool y.f1.f0, .slice s.1 y.f1.f1.length s.2.1, .string y.f2, .int .i64 y.f3, .slice s.2.2.1 y.f4.length s.2.2.2.1]), (76, .bool b), (14, .pointer (some ⟨s.2.2.2.2, 0, none⟩))]) (fun s w1 => Below Y.heap.size Y w1 ∧ w1.heap[s.2.2.2.2]? = some (.cells #[.int .i64 0, .bool false, .slice none 0 0, .string ⟨#[]⟩, .int .i64 0, .slice none 0 0] 45 (0, 0)) ∧ Y.heap.size ≤ s.2.2.2.2 ∧ LiesF w1 y s.1 s.2.1 s.2.2.1 s.2.2.2.1) ?hc ?hh
  case hh =>
    intro HJ
    refine two_ (i := 3) (j := 8) (Ni := (some 73)) (Nj := (some 14)) #[true, true, true, true, false, false, false, false, false, false, false] #[true, true, true, false, false, false, false, false, true, false, false] rfl rfl rfl rfl (two_of HT_.out (by kernel_rfl)) (by decide) (by decide) (fun K hK => ?_) (fun K hK => ?_)
    · skip
      refine goes_ Try.func49 (by kernel_rfl) rfl #[.int .i64 i] (by rfl) rfl rfl (by (try simp only [List.map_toArray, List.map_cons, List.map_nil]); first | done | rfl) ?_
      refine (arg_L _ i).mono ?_
      rintro e wn ⟨rfl, hb⟩
      refine ⟨_, rfl, ?_⟩
      have n0_ := Aside0.mk (below_step HBB.out hb)
      clear HBB hHeld hb
      have HBB := n0_
      clear n0_
      refine hK.out _ _ HBB.out (fun hHeld => ?_)
      clear hK K
      refine norm_ (a' := ?_) ?_ ?_
      rotate_left
      · show Act.put _ (some 73) _ = _
        simp only [Act.put, List.setIfInBounds_toArray, List.set_cons_zero, List.set_cons_succ, i64_w, i32_w]
        rfl
      refine two_ (i := 4) (j := 8) (Ni := (some 74)) (Nj := (some 14)) #[true, true, true, true, true, false, false, false, false, false, false] #[true, true, true, true, false, false, false, false, true, false, false] rfl rfl rfl rfl (two_of HT_.out (by kernel_rfl)) (by decide) (by decide) (fun K hK => ?_) (fun K hK => ?_)
      · skip
        refine goes_ Try.func47 (by kernel_rfl) rfl #[.agg CS, .agg MS, .agg #[.int .i64 6, .int .i64 i, .slice none 0 0]] (by rfl) rfl rfl (by (try simp only [List.map_toArray, List.map_cons, List.map_nil]); first | done | rfl) ?_
        refine (HSRC.out _ HBB.out).mono ?_
        rintro e wm ⟨A2, c2, A5, c5, rfl, hl, hb⟩
        refine ⟨_, rfl, ?_⟩
        have HLI := Aside0.mk hl
        clear hl
        have n0_ := Aside0.mk (below_step HBB.out hb)
        clear HBB hHeld hb
        have HBB := n0_
        clear n0_
        refine hK.out _ _ HBB.out (fun hHeld => ?_)
        clear hK K
        refine norm_ (a' := ?_) ?_ ?_
        rotate_left
        · show Act.put _ (some 74) _ = _
          simp only [Act.put, List.setIfInBounds_toArray, List.set_cons_zero, List.set_cons_succ, i64_w, i32_w]
          rfl
        refine pure_ (i := 5) (N := (some 69)) (v := ?_) (a' := ?_) #[true, true, true, true, true, true, false, false, false, false, false] rfl rfl (any_of HT_.out (by kernel_rfl)) (fun _ _ _ h => HP.out _ _ _ _ _ h) (Or.inl ⟨by rfl, ?_⟩) ?_ ?_
        rotate_left; (intro w'; go_simp; with_reducible rfl)
        rotate_left; (simp only [Act.put, List.setIfInBounds_toArray, List.set_cons_zero, List.set_cons_succ, i64_w, i32_w]; rfl)
        refine pure_ (i := 6) (N := (some 75)) (v := ?_) (a' := ?_) #[true, true, true, true, true, true, true, false, false, false, false] rfl rfl (any_of HT_.out (by kernel_rfl)) (fun _ _ _ h => HP.out _ _ _ _ _ h) (Or.inl ⟨by rfl, ?_⟩) ?_ ?_
        rotate_left; (intro w'; go_simp; with_reducible rfl)
        rotate_left; (simp only [Act.put, List.setIfInBounds_toArray, List.set_cons_zero, List.set_cons_succ, i64_w, i32_w]; rfl)
        refine pure_ (i := 7) (N := (some 76)) (v := ?_) (a' := ?_) #[true, true, true, true, true, true, true, true, false, false, false] rfl rfl (any_of HT_.out (by kernel_rfl)) (fun _ _ _ h => HP.out _ _ _ _ _ h) (Or.inl ⟨by rfl, ?_⟩) ?_ ?_
        rotate_left; (intro w'; go_simp; with_reducible rfl)
        rotate_left; (simp only [Act.put, List.setIfInBounds_toArray, List.set_cons_zero, List.set_cons_succ, i64_w, i32_w]; rfl)
        refine one_ (i := 8) (N := (some 14)) #[true, true, true, true, true, true, true, true, true, false, false] rfl rfl (one_of HT_.out (by kernel_rfl)) (by decide) (fun K hK => ?_)
        refine box_step ?hg (N := 14) ?hd (cs := #[.int .i64 0, .bool false, .slice none 0 0, .string ⟨#[]⟩, .int .i64 0, .slice none 0 0]) (t := 45) ?hr ?_; (case hd => rfl); (case hg => rfl); (case hr => first | (go_simp; done) | (go_simp; rfl))
        intro gb hg wo hbox hb
        have HLI := Aside0.mk (HLI.out.below hb)
        have n0_ := Aside0.mk (below_step HBB.out hb)
        have HBOX := Aside0.mk hbox
        have HGE := Aside0.mk (show Y.heap.size ≤ gb by rw [hg]; exact HBB.out.size)
        clear HBB hHeld hb hbox hg
        have HBB := n0_
        clear n0_
        refine hK.out _ _ HBB.out (fun hHeld => ?_)
        clear hK K
        refine norm_ (a' := ?_) ?_ ?_
        rotate_left
        · show Act.put _ (some 14) _ = _
          simp only [Act.put, List.setIfInBounds_toArray, List.set_cons_zero, List.set_cons_succ, i64_w, i32_w]
          rfl
        have hj := HJ (A2, c2, A5, c5, gb) _ ⟨HBB.out, HBOX.out, HGE.out, HLI.out⟩
        refine norm_ ?_ hj
        rfl
      · skip
        refine box_step ?hg (N := 14) ?hd (cs := #[.int .i64 0, .bool false, .slice none 0 0, .string ⟨#[]⟩, .int .i64 0, .slice none 0 0]) (t := 45) ?hr ?_; (case hd => rfl); (case hg => rfl); (case hr => first | (go_simp; done) | (go_simp; rfl))
        intro gb hg wo hbox hb
        have n0_ := Aside0.mk (below_step HBB.out hb)
        have HBOX := Aside0.mk hbox
        have HGE := Aside0.mk (show Y.heap.size ≤ gb by rw [hg]; exact HBB.out.size)
        clear HBB hHeld hb hbox hg
        have HBB := n0_
        clear n0_
        refine hK.out _ _ HBB.out (fun hHeld => ?_)
        clear hK K
        refine norm_ (a' := ?_) ?_ ?_
        rotate_left
        · show Act.put _ (some 14) _ = _
          simp only [Act.put, List.setIfInBounds_toArray, List.set_cons_zero, List.set_cons_succ, i64_w, i32_w]
          rfl
        refine one_ (i := 4) (N := (some 74)) #[true, true, true, true, true, false, false, false, true, false, false] rfl rfl (one_of HT_.out (by kernel_rfl)) (by decide) (fun K hK => ?_)
        refine goes_ Try.func47 (by kernel_rfl) rfl #[.agg CS, .agg MS, .agg #[.int .i64 6, .int .i64 i, .slice none 0 0]] (by rfl) rfl rfl (by (try simp only [List.map_toArray, List.map_cons, List.map_nil]); first | done | rfl) ?_
        refine (HSRC.out _ HBB.out).mono ?_
        rintro e wm ⟨A2, c2, A5, c5, rfl, hl, hb⟩
        refine ⟨_, rfl, ?_⟩
        have HBOX := Aside0.mk ((hb.block _ (blk_lt HBOX.out)).trans HBOX.out)
        have HLI := Aside0.mk hl
        clear hl
        have n0_ := Aside0.mk (below_step HBB.out hb)
        clear HBB hHeld hb
        have HBB := n0_
        clear n0_
        refine hK.out _ _ HBB.out (fun hHeld => ?_)
        clear hK K
        refine norm_ (a' := ?_) ?_ ?_
        rotate_left
        · show Act.put _ (some 74) _ = _
          simp only [Act.put, List.setIfInBounds_toArray, List.set_cons_zero, List.set_cons_succ, i64_w, i32_w]
          rfl
        refine pure_ (i := 5) (N := (some 69)) (v := ?_) (a' := ?_) #[true, true, true, true, true, true, false, false, true, false, false] rfl rfl (any_of HT_.out (by kernel_rfl)) (fun _ _ _ h => HP.out _ _ _ _ _ h) (Or.inl ⟨by rfl, ?_⟩) ?_ ?_
        rotate_left; (intro w'; go_simp; with_reducible rfl)
        rotate_left; (simp only [Act.put, List.setIfInBounds_toArray, List.set_cons_zero, List.set_cons_succ, i64_w, i32_w]; rfl)
        refine pure_ (i := 6) (N := (some 75)) (v := ?_) (a' := ?_) #[true, true, true, true, true, true, true, false, true, false, false] rfl rfl (any_of HT_.out (by kernel_rfl)) (fun _ _ _ h => HP.out _ _ _ _ _ h) (Or.inl ⟨by rfl, ?_⟩) ?_ ?_
        rotate_left; (intro w'; go_simp; with_reducible rfl)
        rotate_left; (simp only [Act.put, List.setIfInBounds_toArray, List.set_cons_zero, List.set_cons_succ, i64_w, i32_w]; rfl)
        refine pure_ (i := 7) (N := (some 76)) (v := ?_) (a' := ?_) #[true, true, true, true, true, true, true, true, true, false, false] rfl rfl (any_of HT_.out (by kernel_rfl)) (fun _ _ _ h => HP.out _ _ _ _ _ h) (Or.inl ⟨by rfl, ?_⟩) ?_ ?_
        rotate_left; (intro w'; go_simp; with_reducible rfl)
        rotate_left; (simp only [Act.put, List.setIfInBounds_toArray, List.set_cons_zero, List.set_cons_succ, i64_w, i32_w]; rfl)
        have hj := HJ (A2, c2, A5, c5, gb) _ ⟨HBB.out, HBOX.out, HGE.out, HLI.out⟩
        refine norm_ ?_ hj
        rfl
    · skip
      refine box_step ?hg (N := 14) ?hd (cs := #[.int .i64 0, .bool false, .slice none 0 0, .string ⟨#[]⟩, .int .i64 0, .slice none 0 0]) (t := 45) ?hr ?_; (case hd => rfl); (case hg => rfl); (case hr => first | (go_simp; done) | (go_simp; rfl))
      intro gb hg wo hbox hb
      have n0_ := Aside0.mk (below_step HBB.out hb)
      have HBOX := Aside0.mk hbox
      have HGE := Aside0.mk (show Y.heap.size ≤ gb by rw [hg]; exact HBB.out.size)
      clear HBB hHeld hb hbox hg
      have HBB := n0_
      clear n0_
      refine hK.out _ _ HBB.out (fun hHeld => ?_)
      clear hK K
      refine norm_ (a' := ?_) ?_ ?_
      rotate_left
      · show Act.put _ (some 14) _ = _
        simp only [Act.put, List.setIfInBounds_toArray, List.set_cons_zero, List.set_cons_succ, i64_w, i32_w]
        rfl
      refine one_ (i := 3) (N := (some 73)) #[true, true, true, true, false, false, false, false, true, false, false] rfl rfl (one_of HT_.out (by kernel_rfl)) (by decide) (fun K hK => ?_)
      refine goes_ Try.func49 (by kernel_rfl) rfl #[.int .i64 i] (by rfl) rfl rfl (by (try simp only [List.map_toArray, List.map_cons, List.map_nil]); first | done | rfl) ?_
      refine (arg_L _ i).mono ?_
      rintro e wn ⟨rfl, hb⟩
      refine ⟨_, rfl, ?_⟩
      have HBOX := Aside0.mk ((hb.block _ (blk_lt HBOX.out)).trans HBOX.out)
      have n0_ := Aside0.mk (below_step HBB.out hb)
      clear HBB hHeld hb
      have HBB := n0_
      clear n0_
      refine hK.out _ _ HBB.out (fun hHeld => ?_)
      clear hK K
      refine norm_ (a' := ?_) ?_ ?_
      rotate_left
      · show Act.put _ (some 73) _ = _
        simp only [Act.put, List.setIfInBounds_toArray, List.set_cons_zero, List.set_cons_succ, i64_w, i32_w]
        rfl
      refine one_ (i := 4) (N := (some 74)) #[true, true, true, true, true, false, false, false, true, false, false] rfl rfl (one_of HT_.out (by kernel_rfl)) (by decide) (fun K hK => ?_)
      refine goes_ Try.func47 (by kernel_rfl) rfl #[.agg CS, .agg MS, .agg #[.int .i64 6, .int .i64 i, .slice none 0 0]] (by rfl) rfl rfl (by (try simp only [List.map_toArray, List.map_cons, List.map_nil]); first | done | rfl) ?_
      refine (HSRC.out _ HBB.out).mono ?_
      rintro e wm ⟨A2, c2, A5, c5, rfl, hl, hb⟩
      refine ⟨_, rfl, ?_⟩
      have HBOX := Aside0.mk ((hb.block _ (blk_lt HBOX.out)).trans HBOX.out)
      have HLI := Aside0.mk hl
      clear hl
      have n0_ := Aside0.mk (below_step HBB.out hb)
      clear HBB hHeld hb
      have HBB := n0_
      clear n0_
      refine hK.out _ _ HBB.out (fun hHeld => ?_)
      clear hK K
      refine norm_ (a' := ?_) ?_ ?_
      rotate_left
      · show Act.put _ (some 74) _ = _
        simp only [Act.put, List.setIfInBounds_toArray, List.set_cons_zero, List.set_cons_succ, i64_w, i32_w]
        rfl
      refine pure_ (i := 5) (N := (some 69)) (v := ?_) (a' := ?_) #[true, true, true, true, true, true, false, false, true, false, false] rfl rfl (any_of HT_.out (by kernel_rfl)) (fun _ _ _ h => HP.out _ _ _ _ _ h) (Or.inl ⟨by rfl, ?_⟩) ?_ ?_
      rotate_left; (intro w'; go_simp; with_reducible rfl)
      rotate_left; (simp only [Act.put, List.setIfInBounds_toArray, List.set_cons_zero, List.set_cons_succ, i64_w, i32_w]; rfl)
      refine pure_ (i := 6) (N := (some 75)) (v := ?_) (a' := ?_) #[true, true, true, true, true, true, true, false, true, false, false] rfl rfl (any_of HT_.out (by kernel_rfl)) (fun _ _ _ h => HP.out _ _ _ _ _ h) (Or.inl ⟨by rfl, ?_⟩) ?_ ?_
      rotate_left; (intro w'; go_simp; with_reducible rfl)
      rotate_left; (simp only [Act.put, List.setIfInBounds_toArray, List.set_cons_zero, List.set_cons_succ, i64_w, i32_w]; rfl)
      refine pure_ (i := 7) (N := (some 76)) (v := ?_) (a' := ?_) #[true, true, true, true, true, true, true, true, true, false, false] rfl rfl (any_of HT_.out (by kernel_rfl)) (fun _ _ _ h => HP.out _ _ _ _ _ h) (Or.inl ⟨by rfl, ?_⟩) ?_ ?_
      rotate_left; (intro w'; go_simp; with_reducible rfl)
      rotate_left; (simp only [Act.put, List.setIfInBounds_toArray, List.set_cons_zero, List.set_cons_succ, i64_w, i32_w]; rfl)
      have hj := HJ (A2, c2, A5, c5, gb) _ ⟨HBB.out, HBOX.out, HGE.out, HLI.out⟩
      refine norm_ ?_ hj
      rfl
  case hc =>
    rintro ⟨A2, c2, A5, c5, gb⟩ wj ⟨hbj, hzj, hgj, hlj⟩
    refine norm_ (a' := ?_) ?_ ?_
    rotate_left
    · show putAll _ _ = _
      simp only [putAll, Act.put, List.setIfInBounds_toArray, List.set_cons_zero, List.set_cons_succ]
      rfl
    obtain ⟨e0, e1, e2, e3, e4, e5⟩ := six_cells hzj
    obtain ⟨z0, z1, z2, z3, z4, z5⟩ := six_live hzj
    refine last_ (i := 9) (N := none) #[true, true, true, true, true, true, true, true, true, true, false] rfl rfl (one_of HT_.out (by kernel_rfl)) (by decide) (fun K hK => ?_)
    refine skip_ (w1 := ?_) (by rfl) rfl ?_ ?_
    rotate_left
    · go_simp
      rfl
    refine hK.out _ _ ?_
    clear hK K
    refine pure_ (i := 10) (N := (some 15)) (v := ?_) (a' := ?_) #[true, true, true, true, true, true, true, true, true, true, true] rfl rfl (any_of HT_.out (by kernel_rfl)) (fun _ _ _ h => HP.out _ _ _ _ _ h) (Or.inl ⟨by rfl, ?_⟩) ?_ ?_
    rotate_left; (intro w'; go_simp; with_reducible rfl)
    rotate_left; (simp only [Act.put, List.setIfInBounds_toArray, List.set_cons_zero, List.set_cons_succ, i64_w, i32_w]; rfl)
    refine done_ (done_of HT_.out (by kernel_rfl)) ?_
    exact HQ.out A2 c2 A5 c5 gb _ (below_six hbj hgj) hgj ⟨six_put hzj, hlj.six hzj _ _ _ _ _ _⟩
end Go.Proofs.YthdmacdeefohkaaSrcRegA
