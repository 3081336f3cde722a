/- The reference's numbers: Cmp, Neg, Op where it shifts and where it takes away. -/
import Derived.Test.YtlifdpfhepamfaaPHe7
import Derived.Test.YtlifdpfhepamfaaMem
import Derived.Deep.RegionHeld3
import Derived.Test.YtlifdpfhepamfaaPHe13
import Derived.Test.YtlifdpfhepamfaaPHe8
namespace Go.Proofs.YtlifdpfhepamfaaPair
open Go.RowKit Go.Proofs.YtlifdpfhepamfaaW.PrintWords Go.Proofs.YtlifdpfhepamfaaW.PrintLast Go.Proofs.YtlifdpfhepamfaaW.PrintMore Go.Proofs.YtlifdpfhepamfaaMem Go.Proofs.YtlifdpfhepamfaaLeaf Go.Proofs.YtlifdpfhepamfaaBits Go.Proofs.Ytlifdpfhepamfaa.PHe Go.Proofs
set_option linter.unusedVariables false
set_option linter.unusedSimpArgs false
theorem two_far {w : World} {g g' : Nat} {o : Obj} {a b : Value} (h : w.heap[g']? = some o) (hn : g ≠ g') : ((w.setCell ⟨g, 0, none⟩ a).setCell ⟨g, 1, none⟩ b).heap[g']? = some o := by
  have hm : Mods (fun k => k = g) w ((w.setCell ⟨g, 0, none⟩ a).setCell ⟨g, 1, none⟩ b) := ((Mods.refl (fun k => k = g) w).setCell (p := ⟨g, 0, none⟩) (.inl rfl) _).setCell (p := ⟨g, 1, none⟩) (.inl rfl) _
  exact hm.blk h (fun e => hn e.symm)
def NumAt (W : World) (g : Nat) (neg : Bool) (A : Option Addr) (n c : Nat) : Prop := W.heap[g]? = some (.cells #[.bool neg, .slice A n c] 41 (0, 0))
def Ze (W : World) (g : Nat) : Prop := W.heap[g]? = some (.cells #[.bool false, .slice none 0 0] 41 (0, 0))
theorem Ze.below {W W1 : World} {g : Nat} (h : Ze W g) (hb : Below W.heap.size W W1) : Ze W1 g := (hb.block _ (blk_lt h)).trans h
theorem NumAt.below {W W1 : World} {g : Nat} {neg : Bool} {A : Option Addr} {n c : Nat} (h : NumAt W g neg A n c) (hb : Below W.heap.size W W1) : NumAt W1 g neg A n c := (hb.block _ (blk_lt h)).trans h
/-- A number that may be is what is. -/
def Is (Y : World) (neg : Bool) (A : Option Addr) (n c : Nat) : Prop := ∀ W, Below Y.heap.size Y W → Calls Try.prog 86 #[.agg #[.bool neg, .slice A n c]] W fun e w' => e = .returned (.agg #[.bool neg, .slice A n c]) ∧ Below W.heap.size W w'

def TOp : Bool × List (List Nat × List Nat) := (true, [([], []), ([0], [0]), ([], []), ([2, 1], [2]), ([], []), ([], []), ([4, 1, 3, 0, 1, 4, 5], [1, 4]), ([5, 3, 6, 0, 1, 2, 3, 4, 5, 6], [3, 5])])
def BOp : List Nat := [0, 1, 0, 7, 0, 0, 63, 127]
def OOp : Array Oper := #[{ dst := some 13, op := Op.load 41 (Operand.tmp 4), type := 41, pos := "ref.go:176", after := #[], guard := none }, { dst := some 14, op := Op.call { callee := Callee.value (Operand.func 86), args := #[Operand.tmp 13], argTypes := #[41] }, type := 41, pos := "ref.go:176", after := #[{ on := 0, ground := Ground.data }], guard := none }, { dst := some 15, op := Op.load 41 (Operand.tmp 5), type := 41, pos := "ref.go:176", after := #[], guard := none }, { dst := some 16, op := Op.call { callee := Callee.value (Operand.func 86), args := #[Operand.tmp 15], argTypes := #[41] }, type := 41, pos := "ref.go:176", after := #[{ on := 2, ground := Ground.data }, { on := 1, ground := Ground.chain }], guard := none }, { dst := some 8, op := Op.alloc 41, type := 0, pos := "ref.go:176", after := #[], guard := none }, { dst := some 9, op := Op.alloc 41, type := 0, pos := "ref.go:176", after := #[], guard := none }, { dst := none, op := Op.store 41 (Operand.tmp 8) (Operand.tmp 14), type := 0, pos := "ref.go:176", after := #[{ on := 4, ground := Ground.data }, { on := 1, ground := Ground.data }, { on := 3, ground := Ground.chain }, { on := 0, ground := Ground.phase }, { on := 1, ground := Ground.phase }, { on := 2, ground := Ground.textOnly Departure.lateStores }, { on := 3, ground := Ground.textOnly Departure.lateStoresUnsure }, { on := 4, ground := Ground.phase }, { on := 5, ground := Ground.phase }], guard := none }, { dst := none, op := Op.store 41 (Operand.tmp 9) (Operand.tmp 16), type := 0, pos := "ref.go:176", after := #[{ on := 5, ground := Ground.data }, { on := 3, ground := Ground.data }, { on := 6, ground := Ground.chain }, { on := 0, ground := Ground.phase }, { on := 1, ground := Ground.phase }, { on := 2, ground := Ground.phase }, { on := 3, ground := Ground.phase }, { on := 4, ground := Ground.phase }, { on := 5, ground := Ground.phase }, { on := 6, ground := Ground.phase }], guard := none }]
theorem tabOp : rtab .any OOp = TOp := by kernel_rfl
theorem bitsOp : waitsOk TOp.2 BOp = true := by kernel_rfl
set_option maxHeartbeats 16000000 in
set_option maxRecDepth 100000 in
theorem regOp {u0 u1 u2 u3 u4 u5 u6 u7 u8 u9 u10 u11 u12 u13 u14 u15 u16 u17 u18 u19 u20 u21 u22 u23 u24 u25 u26 u27 u28 u29 u30 u31 u32 u33 u34 u35 u36 u37 u38 u39 u40 u41 u42 u43 u44 u45 u46 u47 u48 u49 u50 u51 u52 u53 u54 u55 u56 u57 u58 u59 u60 u61 u62 u63 u64 u65 u66 u67 u68 u69 u70 u71 u72 u73 u74 u75 u76 u77 u78 u79 u80 u81 u82 u83 u84 u85 u86 u87 u88 u89 u90 u91 u92 u93 u94 u95 u96 u97 u98 u99 u100 u101 u102 u103 u104 u105 u106 u107 u108 u109 u110 u111 u112 u113 : Value} {Q : Exit → Act → World → Prop} (hP : ∀ c (a : Act) d v w, Q (.panic c) (a.put d v) w → Q (.panic c) a w) {Y : World} {gx gy : Nat} {n1 n2 : Bool} {A1 A2 : Option Addr} {k1 c1 k2 c2 : Nat} (hx : NumAt Y gx n1 A1 k1 c1) (hy : NumAt Y gy n2 A2 k2 c2) (h1 : Is Y n1 A1 k1 c1) (h2 : Is Y n2 A2 k2 c2)
    (hQ : ∀ ga gb W1, Below Y.heap.size Y W1 → Y.heap.size ≤ ga → Y.heap.size ≤ gb → NumAt W1 ga n1 A1 k1 c1 → NumAt W1 gb n2 A2 k2 c2 → Q .normal ⟨#[u0, u1, u2, u3, .pointer (some ⟨gx, 0, none⟩), .pointer (some ⟨gy, 0, none⟩), u6, u7, .pointer (some ⟨ga, 0, none⟩), .pointer (some ⟨gb, 0, none⟩), u10, u11, u12, .agg #[.bool n1, .slice A1 k1 c1], .agg #[.bool n1, .slice A1 k1 c1], .agg #[.bool n2, .slice A2 k2 c2], .agg #[.bool n2, .slice A2 k2 c2], u17, u18, u19, u20, u21, u22, u23, u24, u25, u26, u27, u28, u29, u30, u31, u32, u33, u34, u35, u36, u37, u38, u39, u40, u41, u42, u43, u44, u45, u46, u47, u48, u49, u50, u51, u52, u53, u54, u55, u56, u57, u58, u59, u60, u61, u62, u63, u64, u65, u66, u67, u68, u69, u70, u71, u72, u73, u74, u75, u76, u77, u78, u79, u80, u81, u82, u83, u84, u85, u86, u87, u88, u89, u90, u91, u92, u93, u94, u95, u96, u97, u98, u99, u100, u101, u102, u103, u104, u105, u106, u107, u108, u109, u110, u111, u112, u113], []⟩ W1) :
    (Code.region 1 OOp true).wp Try.prog Q ⟨#[u0, u1, u2, u3, .pointer (some ⟨gx, 0, none⟩), .pointer (some ⟨gy, 0, none⟩), u6, u7, u8, u9, u10, u11, u12, u13, u14, u15, u16, u17, u18, u19, u20, u21, u22, u23, u24, u25, u26, u27, u28, u29, u30, u31, u32, u33, u34, u35, u36, u37, u38, u39, u40, u41, u42, u43, u44, u45, u46, u47, u48, u49, u50, u51, u52, u53, u54, u55, u56, u57, u58, u59, u60, u61, u62, u63, u64, u65, u66, u67, u68, u69, u70, u71, u72, u73, u74, u75, u76, u77, u78, u79, u80, u81, u82, u83, u84, u85, u86, u87, u88, u89, u90, u91, u92, u93, u94, u95, u96, u97, u98, u99, u100, u101, u102, u103, u104, u105, u106, u107, u108, u109, u110, u111, u112, u113], []⟩ Y := by
  unfold OOp
  have hu := Try.underlying41
  have HX := Aside0.mk hx
  have HY := Aside0.mk hy
  have H1 := Aside0.mk h1
  have H2 := Aside0.mk h2
  have HQ := Aside0.mk hQ
  have HP := Aside0.mk hP
  have HSZ : (Try.prog.info? 41).map (·.size) = some 2 := by kernel_rfl
  clear hx hy h1 h2 hQ hP
  have HBB := Aside0.mk (below_drew (Below.refl Y.heap.size Y))
  refine start_ (n := 8) (S := fun w' => Below Y.heap.size Y w') (ds := []) #[false, false, false, false, false, false, false, false] (by kernel_rfl) rfl rfl HBB.out (fun hHeld => ?_); refine with_tabW tabOp bitsOp (fun HT_ HW_ => ?_)
  generalize Y.drew = wd at HBB hHeld ⊢
  refine take_ (i := 0) (N := (some 13)) (v := (.agg #[.bool n1, .slice A1 k1 c1])) (a' := ?_) #[true, false, false, false, false, false, false, false] rfl rfl (take_ofW HT_.out HW_.out (by kernel_rfl)) (fun _ _ _ h => HP.out _ _ _ _ _ h) (Or.inl ⟨by rfl, ?_⟩) hHeld ?_ ?_
  · (intro w' hs; obtain ⟨d0, d1, _, _⟩ := two_cells ((hs.block _ (blk_lt HX.out)).trans HX.out); go_simp)
  rotate_left; (simp only [Act.put, List.setIfInBounds_toArray, List.set_cons_zero, List.set_cons_succ, i64_w, i32_w]; rfl)
  refine take_ (i := 2) (N := (some 15)) (v := (.agg #[.bool n2, .slice A2 k2 c2])) (a' := ?_) #[true, false, true, false, false, false, false, false] rfl rfl (take_ofW HT_.out HW_.out (by kernel_rfl)) (fun _ _ _ h => HP.out _ _ _ _ _ h) (Or.inl ⟨by rfl, ?_⟩) hHeld ?_ ?_
  · (intro w' hs; obtain ⟨d0, d1, _, _⟩ := two_cells ((hs.block _ (blk_lt HY.out)).trans HY.out); go_simp)
  rotate_left; (simp only [Act.put, List.setIfInBounds_toArray, List.set_cons_zero, List.set_cons_succ, i64_w, i32_w]; rfl)
  refine join_ (σ := Nat × Nat) 2 #[true, true, true, true, true, true, false, false] (fun s => [(14, .agg #[.bool n1, .slice A1 k1 c1]), (16, .agg #[.bool n2, .slice A2 k2 c2]), (8, .pointer (some ⟨s.1, 0, none⟩)), (9, .pointer (some ⟨s.2, 0, none⟩))]) (fun s w' => Below Y.heap.size Y w' ∧ (Ze w' s.1 ∧ Y.heap.size ≤ s.1) ∧ (Ze w' s.2 ∧ Y.heap.size ≤ s.2) ∧ s.1 ≠ s.2) ?_ ?_
  rotate_left
  · intro hJ1345
    refine join_ (σ := Nat × Nat) 3 #[true, true, true, true, true, false, false, false] (fun s => [(14, .agg #[.bool n1, .slice A1 k1 c1]), (16, .agg #[.bool n2, .slice A2 k2 c2]), (8, .pointer (some ⟨s.1, 0, none⟩))]) (fun s w' => Below Y.heap.size Y w' ∧ (Ze w' s.1 ∧ Y.heap.size ≤ s.1) ∧ True ∧ True) ?_ ?_
    rotate_left
    · intro hJ134
      refine join_ (σ := Nat × Nat) 3 #[true, true, true, true, false, true, false, false] (fun s => [(14, .agg #[.bool n1, .slice A1 k1 c1]), (16, .agg #[.bool n2, .slice A2 k2 c2]), (9, .pointer (some ⟨s.2, 0, none⟩))]) (fun s w' => Below Y.heap.size Y w' ∧ True ∧ (Ze w' s.2 ∧ Y.heap.size ≤ s.2) ∧ True) ?_ ?_
      rotate_left
      · intro hJ135
        refine join_ (σ := Nat × Nat) 3 #[true, true, true, false, true, true, false, false] (fun s => [(14, .agg #[.bool n1, .slice A1 k1 c1]), (8, .pointer (some ⟨s.1, 0, none⟩)), (9, .pointer (some ⟨s.2, 0, none⟩))]) (fun s w' => Below Y.heap.size Y w' ∧ (Ze w' s.1 ∧ Y.heap.size ≤ s.1) ∧ (Ze w' s.2 ∧ Y.heap.size ≤ s.2) ∧ s.1 ≠ s.2) ?_ ?_
        rotate_left
        · intro hJ145
          refine join_ (σ := Nat × Nat) 4 #[true, true, true, true, false, false, false, false] (fun s => [(14, .agg #[.bool n1, .slice A1 k1 c1]), (16, .agg #[.bool n2, .slice A2 k2 c2])]) (fun s w' => Below Y.heap.size Y w' ∧ True ∧ True ∧ True) ?_ ?_
          rotate_left
          · intro hJ13
            refine join_ (σ := Nat × Nat) 4 #[true, true, true, false, true, false, false, false] (fun s => [(14, .agg #[.bool n1, .slice A1 k1 c1]), (8, .pointer (some ⟨s.1, 0, none⟩))]) (fun s w' => Below Y.heap.size Y w' ∧ (Ze w' s.1 ∧ Y.heap.size ≤ s.1) ∧ True ∧ True) ?_ ?_
            rotate_left
            · intro hJ14
              refine join_ (σ := Nat × Nat) 4 #[true, true, true, false, false, true, false, false] (fun s => [(14, .agg #[.bool n1, .slice A1 k1 c1]), (9, .pointer (some ⟨s.2, 0, none⟩))]) (fun s w' => Below Y.heap.size Y w' ∧ True ∧ (Ze w' s.2 ∧ Y.heap.size ≤ s.2) ∧ True) ?_ ?_
              rotate_left
              · intro hJ15
                refine join_ (σ := Nat × Nat) 4 #[true, false, true, false, true, true, false, false] (fun s => [(8, .pointer (some ⟨s.1, 0, none⟩)), (9, .pointer (some ⟨s.2, 0, none⟩))]) (fun s w' => Below Y.heap.size Y w' ∧ (Ze w' s.1 ∧ Y.heap.size ≤ s.1) ∧ (Ze w' s.2 ∧ Y.heap.size ≤ s.2) ∧ s.1 ≠ s.2) ?_ ?_
                rotate_left
                · intro hJ45
                  refine join_ (σ := Nat × Nat) 5 #[true, true, true, false, false, false, false, false] (fun s => [(14, .agg #[.bool n1, .slice A1 k1 c1])]) (fun s w' => Below Y.heap.size Y w' ∧ True ∧ True ∧ True) ?_ ?_
                  rotate_left
                  · intro hJ1
                    refine join_ (σ := Nat × Nat) 5 #[true, false, true, false, true, false, false, false] (fun s => [(8, .pointer (some ⟨s.1, 0, none⟩))]) (fun s w' => Below Y.heap.size Y w' ∧ (Ze w' s.1 ∧ Y.heap.size ≤ s.1) ∧ True ∧ True) ?_ ?_
                    rotate_left
                    · intro hJ4
                      refine join_ (σ := Nat × Nat) 5 #[true, false, true, false, false, true, false, false] (fun s => [(9, .pointer (some ⟨s.2, 0, none⟩))]) (fun s w' => Below Y.heap.size Y w' ∧ True ∧ (Ze w' s.2 ∧ Y.heap.size ≤ s.2) ∧ True) ?_ ?_
                      rotate_left
                      · intro hJ5
                        refine three_ (i := 1) (j := 4) (k := 5) (Ni := (some 14)) (Nj := (some 8)) (Nk := (some 9)) #[true, true, true, false, false, false, false, false] #[true, false, true, false, true, false, false, false] #[true, false, true, false, false, true, false, false] rfl rfl rfl rfl rfl rfl (three_of HT_.out (by kernel_rfl)) (by decide) (by decide) (by decide) (fun K hK => ?_) (fun K hK => ?_) (fun K hK => ?_)
                        · skip
                          refine goes_ Try.func86 (by kernel_rfl) rfl #[.agg #[.bool n1, .slice A1 k1 c1]] (by rfl) rfl rfl (by (try simp only [List.map_toArray, List.map_cons, List.map_nil]); first | done | rfl) ?_
                          refine (H1.out _ HBB.out).mono ?_
                          rintro e wn ⟨rfl, hb⟩
                          refine ⟨_, rfl, ?_⟩
                          have n0_ := Aside0.mk (below_step HBB.out hb)
                          clear HBB hHeld hb
                          have HBB := n0_
                          clear n0_
                          refine hK.out _ _ HBB.out (fun hHeld => ?_)
                          clear hK K
                          refine norm_ (a' := ?_) ?_ ?_
                          rotate_left
                          · show Act.put _ (some 14) _ = _
                            simp only [Act.put, List.setIfInBounds_toArray, List.set_cons_zero, List.set_cons_succ, i64_w, i32_w]
                            rfl
                          have hj := hJ1 (0, 0) _ ⟨HBB.out, trivial, trivial, trivial⟩
                          refine norm_ ?_ hj
                          rfl
                        · skip
                          refine box_step ?hg (N := 8) ?hd (cs := #[.bool false, .slice none 0 0]) (t := 41) ?hr ?_; (case hd => rfl); (case hg => rfl); (case hr => first | (go_simp; done) | (go_simp; rfl))
                          intro g4 hg wn hbox hb
                          have n0_ := Aside0.mk (below_step HBB.out hb)
                          have HBOX := Aside0.mk hbox
                          have HGE := Aside0.mk (show Y.heap.size ≤ g4 by rw [hg]; exact HBB.out.size)
                          clear HBB hHeld hb hbox hg
                          have HBB := n0_
                          clear n0_
                          refine hK.out _ _ HBB.out (fun hHeld => ?_)
                          clear hK K
                          refine norm_ (a' := ?_) ?_ ?_
                          rotate_left
                          · show Act.put _ (some 8) _ = _
                            simp only [Act.put, List.setIfInBounds_toArray, List.set_cons_zero, List.set_cons_succ, i64_w, i32_w]
                            rfl
                          have HZ4 := Aside0.mk (show Ze _ g4 from HBOX.out)
                          have HG4 := HGE
                          clear HBOX HGE
                          have hj := hJ4 (g4, 0) _ ⟨HBB.out, ⟨HZ4.out, HG4.out⟩, trivial, trivial⟩
                          refine norm_ ?_ hj
                          rfl
                        · skip
                          refine box_step ?hg (N := 9) ?hd (cs := #[.bool false, .slice none 0 0]) (t := 41) ?hr ?_; (case hd => rfl); (case hg => rfl); (case hr => first | (go_simp; done) | (go_simp; rfl))
                          intro g5 hg wn hbox hb
                          have n0_ := Aside0.mk (below_step HBB.out hb)
                          have HBOX := Aside0.mk hbox
                          have HGE := Aside0.mk (show Y.heap.size ≤ g5 by rw [hg]; exact HBB.out.size)
                          clear HBB hHeld hb hbox hg
                          have HBB := n0_
                          clear n0_
                          refine hK.out _ _ HBB.out (fun hHeld => ?_)
                          clear hK K
                          refine norm_ (a' := ?_) ?_ ?_
                          rotate_left
                          · show Act.put _ (some 9) _ = _
                            simp only [Act.put, List.setIfInBounds_toArray, List.set_cons_zero, List.set_cons_succ, i64_w, i32_w]
                            rfl
                          have HZ5 := Aside0.mk (show Ze _ g5 from HBOX.out)
                          have HG5 := HGE
                          clear HBOX HGE
                          have hj := hJ5 (0, g5) _ ⟨HBB.out, trivial, ⟨HZ5.out, HG5.out⟩, trivial⟩
                          refine norm_ ?_ hj
                          rfl
                      · skip
                        rintro ⟨g4, g5⟩ wj ⟨hbj, h4j, h5j, hnj⟩
                        refine norm_ (a' := ?_) ?_ ?_
                        rotate_left
                        · show putAll _ _ = _
                          simp only [putAll, Act.put, List.setIfInBounds_toArray, List.set_cons_zero, List.set_cons_succ]
                          rfl
                        have HBB := Aside0.mk hbj
                        have hHeld := hbj
                        have HZ5 := Aside0.mk h5j.1
                        have HG5 := Aside0.mk h5j.2
                        clear hbj h4j h5j hnj
                        refine two_ (i := 1) (j := 4) (Ni := (some 14)) (Nj := (some 8)) #[true, true, true, false, false, true, false, false] #[true, false, true, false, true, true, false, false] rfl rfl rfl rfl (two_of HT_.out (by kernel_rfl)) (by decide) (by decide) (fun K hK => ?_) (fun K hK => ?_)
                        · skip
                          refine goes_ Try.func86 (by kernel_rfl) rfl #[.agg #[.bool n1, .slice A1 k1 c1]] (by rfl) rfl rfl (by (try simp only [List.map_toArray, List.map_cons, List.map_nil]); first | done | rfl) ?_
                          refine (H1.out _ HBB.out).mono ?_
                          rintro e wn ⟨rfl, hb⟩
                          refine ⟨_, rfl, ?_⟩
                          have HZ5 := Aside0.mk (HZ5.out.below hb)
                          have n0_ := Aside0.mk (below_step HBB.out hb)
                          clear HBB hHeld hb
                          have HBB := n0_
                          clear n0_
                          refine hK.out _ _ HBB.out (fun hHeld => ?_)
                          clear hK K
                          refine norm_ (a' := ?_) ?_ ?_
                          rotate_left
                          · show Act.put _ (some 14) _ = _
                            simp only [Act.put, List.setIfInBounds_toArray, List.set_cons_zero, List.set_cons_succ, i64_w, i32_w]
                            rfl
                          have hj := hJ15 (0, g5) _ ⟨HBB.out, trivial, ⟨HZ5.out, HG5.out⟩, trivial⟩
                          refine norm_ ?_ hj
                          rfl
                        · skip
                          refine box_step ?hg (N := 8) ?hd (cs := #[.bool false, .slice none 0 0]) (t := 41) ?hr ?_; (case hd => rfl); (case hg => rfl); (case hr => first | (go_simp; done) | (go_simp; rfl))
                          intro g4 hg wn hbox hb
                          have HNE := Aside0.mk (show g4 ≠ g5 from fun e => by have := blk_lt HZ5.out; omega)
                          have HZ5 := Aside0.mk (HZ5.out.below hb)
                          have n0_ := Aside0.mk (below_step HBB.out hb)
                          have HBOX := Aside0.mk hbox
                          have HGE := Aside0.mk (show Y.heap.size ≤ g4 by rw [hg]; exact HBB.out.size)
                          clear HBB hHeld hb hbox hg
                          have HBB := n0_
                          clear n0_
                          refine hK.out _ _ HBB.out (fun hHeld => ?_)
                          clear hK K
                          refine norm_ (a' := ?_) ?_ ?_
                          rotate_left
                          · show Act.put _ (some 8) _ = _
                            simp only [Act.put, List.setIfInBounds_toArray, List.set_cons_zero, List.set_cons_succ, i64_w, i32_w]
                            rfl
                          have HZ4 := Aside0.mk (show Ze _ g4 from HBOX.out)
                          have HG4 := HGE
                          clear HBOX HGE
                          have hj := hJ45 (g4, g5) _ ⟨HBB.out, ⟨HZ4.out, HG4.out⟩, ⟨HZ5.out, HG5.out⟩, HNE.out⟩
                          refine norm_ ?_ hj
                          rfl
                    · skip
                      rintro ⟨g4, g5⟩ wj ⟨hbj, h4j, h5j, hnj⟩
                      refine norm_ (a' := ?_) ?_ ?_
                      rotate_left
                      · show putAll _ _ = _
                        simp only [putAll, Act.put, List.setIfInBounds_toArray, List.set_cons_zero, List.set_cons_succ]
                        rfl
                      have HBB := Aside0.mk hbj
                      have hHeld := hbj
                      have HZ4 := Aside0.mk h4j.1
                      have HG4 := Aside0.mk h4j.2
                      clear hbj h4j h5j hnj
                      refine two_ (i := 1) (j := 5) (Ni := (some 14)) (Nj := (some 9)) #[true, true, true, false, true, false, false, false] #[true, false, true, false, true, true, false, false] rfl rfl rfl rfl (two_of HT_.out (by kernel_rfl)) (by decide) (by decide) (fun K hK => ?_) (fun K hK => ?_)
                      · skip
                        refine goes_ Try.func86 (by kernel_rfl) rfl #[.agg #[.bool n1, .slice A1 k1 c1]] (by rfl) rfl rfl (by (try simp only [List.map_toArray, List.map_cons, List.map_nil]); first | done | rfl) ?_
                        refine (H1.out _ HBB.out).mono ?_
                        rintro e wn ⟨rfl, hb⟩
                        refine ⟨_, rfl, ?_⟩
                        have HZ4 := Aside0.mk (HZ4.out.below hb)
                        have n0_ := Aside0.mk (below_step HBB.out hb)
                        clear HBB hHeld hb
                        have HBB := n0_
                        clear n0_
                        refine hK.out _ _ HBB.out (fun hHeld => ?_)
                        clear hK K
                        refine norm_ (a' := ?_) ?_ ?_
                        rotate_left
                        · show Act.put _ (some 14) _ = _
                          simp only [Act.put, List.setIfInBounds_toArray, List.set_cons_zero, List.set_cons_succ, i64_w, i32_w]
                          rfl
                        have hj := hJ14 (g4, 0) _ ⟨HBB.out, ⟨HZ4.out, HG4.out⟩, trivial, trivial⟩
                        refine norm_ ?_ hj
                        rfl
                      · skip
                        refine box_step ?hg (N := 9) ?hd (cs := #[.bool false, .slice none 0 0]) (t := 41) ?hr ?_; (case hd => rfl); (case hg => rfl); (case hr => first | (go_simp; done) | (go_simp; rfl))
                        intro g5 hg wn hbox hb
                        have HNE := Aside0.mk (show g4 ≠ g5 from fun e => by have := blk_lt HZ4.out; omega)
                        have HZ4 := Aside0.mk (HZ4.out.below hb)
                        have n0_ := Aside0.mk (below_step HBB.out hb)
                        have HBOX := Aside0.mk hbox
                        have HGE := Aside0.mk (show Y.heap.size ≤ g5 by rw [hg]; exact HBB.out.size)
                        clear HBB hHeld hb hbox hg
                        have HBB := n0_
                        clear n0_
                        refine hK.out _ _ HBB.out (fun hHeld => ?_)
                        clear hK K
                        refine norm_ (a' := ?_) ?_ ?_
                        rotate_left
                        · show Act.put _ (some 9) _ = _
                          simp only [Act.put, List.setIfInBounds_toArray, List.set_cons_zero, List.set_cons_succ, i64_w, i32_w]
                          rfl
                        have HZ5 := Aside0.mk (show Ze _ g5 from HBOX.out)
                        have HG5 := HGE
                        clear HBOX HGE
                        have hj := hJ45 (g4, g5) _ ⟨HBB.out, ⟨HZ4.out, HG4.out⟩, ⟨HZ5.out, HG5.out⟩, HNE.out⟩
                        refine norm_ ?_ hj
                        rfl
                  · skip
                    rintro ⟨g4, g5⟩ wj ⟨hbj, h4j, h5j, hnj⟩
                    refine norm_ (a' := ?_) ?_ ?_
                    rotate_left
                    · show putAll _ _ = _
                      simp only [putAll, Act.put, List.setIfInBounds_toArray, List.set_cons_zero, List.set_cons_succ]
                      rfl
                    have HBB := Aside0.mk hbj
                    have hHeld := hbj
                    clear hbj h4j h5j hnj
                    refine three_ (i := 3) (j := 4) (k := 5) (Ni := (some 16)) (Nj := (some 8)) (Nk := (some 9)) #[true, true, true, true, false, false, false, false] #[true, true, true, false, true, false, false, false] #[true, true, true, false, false, true, false, false] rfl rfl rfl rfl rfl rfl (three_of HT_.out (by kernel_rfl)) (by decide) (by decide) (by decide) (fun K hK => ?_) (fun K hK => ?_) (fun K hK => ?_)
                    · skip
                      refine goes_ Try.func86 (by kernel_rfl) rfl #[.agg #[.bool n2, .slice A2 k2 c2]] (by rfl) rfl rfl (by (try simp only [List.map_toArray, List.map_cons, List.map_nil]); first | done | rfl) ?_
                      refine (H2.out _ HBB.out).mono ?_
                      rintro e wn ⟨rfl, hb⟩
                      refine ⟨_, rfl, ?_⟩
                      have n0_ := Aside0.mk (below_step HBB.out hb)
                      clear HBB hHeld hb
                      have HBB := n0_
                      clear n0_
                      refine hK.out _ _ HBB.out (fun hHeld => ?_)
                      clear hK K
                      refine norm_ (a' := ?_) ?_ ?_
                      rotate_left
                      · show Act.put _ (some 16) _ = _
                        simp only [Act.put, List.setIfInBounds_toArray, List.set_cons_zero, List.set_cons_succ, i64_w, i32_w]
                        rfl
                      have hj := hJ13 (0, 0) _ ⟨HBB.out, trivial, trivial, trivial⟩
                      refine norm_ ?_ hj
                      rfl
                    · skip
                      refine box_step ?hg (N := 8) ?hd (cs := #[.bool false, .slice none 0 0]) (t := 41) ?hr ?_; (case hd => rfl); (case hg => rfl); (case hr => first | (go_simp; done) | (go_simp; rfl))
                      intro g4 hg wn hbox hb
                      have n0_ := Aside0.mk (below_step HBB.out hb)
                      have HBOX := Aside0.mk hbox
                      have HGE := Aside0.mk (show Y.heap.size ≤ g4 by rw [hg]; exact HBB.out.size)
                      clear HBB hHeld hb hbox hg
                      have HBB := n0_
                      clear n0_
                      refine hK.out _ _ HBB.out (fun hHeld => ?_)
                      clear hK K
                      refine norm_ (a' := ?_) ?_ ?_
                      rotate_left
                      · show Act.put _ (some 8) _ = _
                        simp only [Act.put, List.setIfInBounds_toArray, List.set_cons_zero, List.set_cons_succ, i64_w, i32_w]
                        rfl
                      have HZ4 := Aside0.mk (show Ze _ g4 from HBOX.out)
                      have HG4 := HGE
                      clear HBOX HGE
                      have hj := hJ14 (g4, 0) _ ⟨HBB.out, ⟨HZ4.out, HG4.out⟩, trivial, trivial⟩
                      refine norm_ ?_ hj
                      rfl
                    · skip
                      refine box_step ?hg (N := 9) ?hd (cs := #[.bool false, .slice none 0 0]) (t := 41) ?hr ?_; (case hd => rfl); (case hg => rfl); (case hr => first | (go_simp; done) | (go_simp; rfl))
                      intro g5 hg wn hbox hb
                      have n0_ := Aside0.mk (below_step HBB.out hb)
                      have HBOX := Aside0.mk hbox
                      have HGE := Aside0.mk (show Y.heap.size ≤ g5 by rw [hg]; exact HBB.out.size)
                      clear HBB hHeld hb hbox hg
                      have HBB := n0_
                      clear n0_
                      refine hK.out _ _ HBB.out (fun hHeld => ?_)
                      clear hK K
                      refine norm_ (a' := ?_) ?_ ?_
                      rotate_left
                      · show Act.put _ (some 9) _ = _
                        simp only [Act.put, List.setIfInBounds_toArray, List.set_cons_zero, List.set_cons_succ, i64_w, i32_w]
                        rfl
                      have HZ5 := Aside0.mk (show Ze _ g5 from HBOX.out)
                      have HG5 := HGE
                      clear HBOX HGE
                      have hj := hJ15 (0, g5) _ ⟨HBB.out, trivial, ⟨HZ5.out, HG5.out⟩, trivial⟩
                      refine norm_ ?_ hj
                      rfl
                · skip
                  rintro ⟨g4, g5⟩ wj ⟨hbj, h4j, h5j, hnj⟩
                  refine norm_ (a' := ?_) ?_ ?_
                  rotate_left
                  · show putAll _ _ = _
                    simp only [putAll, Act.put, List.setIfInBounds_toArray, List.set_cons_zero, List.set_cons_succ]
                    rfl
                  have HBB := Aside0.mk hbj
                  have hHeld := hbj
                  have HZ4 := Aside0.mk h4j.1
                  have HG4 := Aside0.mk h4j.2
                  have HZ5 := Aside0.mk h5j.1
                  have HG5 := Aside0.mk h5j.2
                  have HNE := Aside0.mk hnj
                  clear hbj h4j h5j hnj
                  refine one_ (i := 1) (N := (some 14)) #[true, true, true, false, true, true, false, false] rfl rfl (one_of HT_.out (by kernel_rfl)) (by decide) (fun K hK => ?_)
                  refine goes_ Try.func86 (by kernel_rfl) rfl #[.agg #[.bool n1, .slice A1 k1 c1]] (by rfl) rfl rfl (by (try simp only [List.map_toArray, List.map_cons, List.map_nil]); first | done | rfl) ?_
                  refine (H1.out _ HBB.out).mono ?_
                  rintro e wn ⟨rfl, hb⟩
                  refine ⟨_, rfl, ?_⟩
                  have HZ4 := Aside0.mk (HZ4.out.below hb)
                  have HZ5 := Aside0.mk (HZ5.out.below hb)
                  have n0_ := Aside0.mk (below_step HBB.out hb)
                  clear HBB hHeld hb
                  have HBB := n0_
                  clear n0_
                  refine hK.out _ _ HBB.out (fun hHeld => ?_)
                  clear hK K
                  refine norm_ (a' := ?_) ?_ ?_
                  rotate_left
                  · show Act.put _ (some 14) _ = _
                    simp only [Act.put, List.setIfInBounds_toArray, List.set_cons_zero, List.set_cons_succ, i64_w, i32_w]
                    rfl
                  have hj := hJ145 (g4, g5) _ ⟨HBB.out, ⟨HZ4.out, HG4.out⟩, ⟨HZ5.out, HG5.out⟩, HNE.out⟩
                  refine norm_ ?_ hj
                  rfl
              · skip
                rintro ⟨g4, g5⟩ wj ⟨hbj, h4j, h5j, hnj⟩
                refine norm_ (a' := ?_) ?_ ?_
                rotate_left
                · show putAll _ _ = _
                  simp only [putAll, Act.put, List.setIfInBounds_toArray, List.set_cons_zero, List.set_cons_succ]
                  rfl
                have HBB := Aside0.mk hbj
                have hHeld := hbj
                have HZ5 := Aside0.mk h5j.1
                have HG5 := Aside0.mk h5j.2
                clear hbj h4j h5j hnj
                refine two_ (i := 3) (j := 4) (Ni := (some 16)) (Nj := (some 8)) #[true, true, true, true, false, true, false, false] #[true, true, true, false, true, true, false, false] rfl rfl rfl rfl (two_of HT_.out (by kernel_rfl)) (by decide) (by decide) (fun K hK => ?_) (fun K hK => ?_)
                · skip
                  refine goes_ Try.func86 (by kernel_rfl) rfl #[.agg #[.bool n2, .slice A2 k2 c2]] (by rfl) rfl rfl (by (try simp only [List.map_toArray, List.map_cons, List.map_nil]); first | done | rfl) ?_
                  refine (H2.out _ HBB.out).mono ?_
                  rintro e wn ⟨rfl, hb⟩
                  refine ⟨_, rfl, ?_⟩
                  have HZ5 := Aside0.mk (HZ5.out.below hb)
                  have n0_ := Aside0.mk (below_step HBB.out hb)
                  clear HBB hHeld hb
                  have HBB := n0_
                  clear n0_
                  refine hK.out _ _ HBB.out (fun hHeld => ?_)
                  clear hK K
                  refine norm_ (a' := ?_) ?_ ?_
                  rotate_left
                  · show Act.put _ (some 16) _ = _
                    simp only [Act.put, List.setIfInBounds_toArray, List.set_cons_zero, List.set_cons_succ, i64_w, i32_w]
                    rfl
                  have hj := hJ135 (0, g5) _ ⟨HBB.out, trivial, ⟨HZ5.out, HG5.out⟩, trivial⟩
                  refine norm_ ?_ hj
                  rfl
                · skip
                  refine box_step ?hg (N := 8) ?hd (cs := #[.bool false, .slice none 0 0]) (t := 41) ?hr ?_; (case hd => rfl); (case hg => rfl); (case hr => first | (go_simp; done) | (go_simp; rfl))
                  intro g4 hg wn hbox hb
                  have HNE := Aside0.mk (show g4 ≠ g5 from fun e => by have := blk_lt HZ5.out; omega)
                  have HZ5 := Aside0.mk (HZ5.out.below hb)
                  have n0_ := Aside0.mk (below_step HBB.out hb)
                  have HBOX := Aside0.mk hbox
                  have HGE := Aside0.mk (show Y.heap.size ≤ g4 by rw [hg]; exact HBB.out.size)
                  clear HBB hHeld hb hbox hg
                  have HBB := n0_
                  clear n0_
                  refine hK.out _ _ HBB.out (fun hHeld => ?_)
                  clear hK K
                  refine norm_ (a' := ?_) ?_ ?_
                  rotate_left
                  · show Act.put _ (some 8) _ = _
                    simp only [Act.put, List.setIfInBounds_toArray, List.set_cons_zero, List.set_cons_succ, i64_w, i32_w]
                    rfl
                  have HZ4 := Aside0.mk (show Ze _ g4 from HBOX.out)
                  have HG4 := HGE
                  clear HBOX HGE
                  have hj := hJ145 (g4, g5) _ ⟨HBB.out, ⟨HZ4.out, HG4.out⟩, ⟨HZ5.out, HG5.out⟩, HNE.out⟩
                  refine norm_ ?_ hj
                  rfl
            · skip
              rintro ⟨g4, g5⟩ wj ⟨hbj, h4j, h5j, hnj⟩
              refine norm_ (a' := ?_) ?_ ?_
              rotate_left
              · show putAll _ _ = _
                simp only [putAll, Act.put, List.setIfInBounds_toArray, List.set_cons_zero, List.set_cons_succ]
                rfl
              have HBB := Aside0.mk hbj
              have hHeld := hbj
              have HZ4 := Aside0.mk h4j.1
              have HG4 := Aside0.mk h4j.2
              clear hbj h4j h5j hnj
              refine two_ (i := 3) (j := 5) (Ni := (some 16)) (Nj := (some 9)) #[true, true, true, true, true, false, false, false] #[true, true, true, false, true, true, false, false] rfl rfl rfl rfl (two_of HT_.out (by kernel_rfl)) (by decide) (by decide) (fun K hK => ?_) (fun K hK => ?_)
              · skip
                refine goes_ Try.func86 (by kernel_rfl) rfl #[.agg #[.bool n2, .slice A2 k2 c2]] (by rfl) rfl rfl (by (try simp only [List.map_toArray, List.map_cons, List.map_nil]); first | done | rfl) ?_
                refine (H2.out _ HBB.out).mono ?_
                rintro e wn ⟨rfl, hb⟩
                refine ⟨_, rfl, ?_⟩
                have HZ4 := Aside0.mk (HZ4.out.below hb)
                have n0_ := Aside0.mk (below_step HBB.out hb)
                clear HBB hHeld hb
                have HBB := n0_
                clear n0_
                refine hK.out _ _ HBB.out (fun hHeld => ?_)
                clear hK K
                refine norm_ (a' := ?_) ?_ ?_
                rotate_left
                · show Act.put _ (some 16) _ = _
                  simp only [Act.put, List.setIfInBounds_toArray, List.set_cons_zero, List.set_cons_succ, i64_w, i32_w]
                  rfl
                have hj := hJ134 (g4, 0) _ ⟨HBB.out, ⟨HZ4.out, HG4.out⟩, trivial, trivial⟩
                refine norm_ ?_ hj
                rfl
              · skip
                refine box_step ?hg (N := 9) ?hd (cs := #[.bool false, .slice none 0 0]) (t := 41) ?hr ?_; (case hd => rfl); (case hg => rfl); (case hr => first | (go_simp; done) | (go_simp; rfl))
                intro g5 hg wn hbox hb
                have HNE := Aside0.mk (show g4 ≠ g5 from fun e => by have := blk_lt HZ4.out; omega)
                have HZ4 := Aside0.mk (HZ4.out.below hb)
                have n0_ := Aside0.mk (below_step HBB.out hb)
                have HBOX := Aside0.mk hbox
                have HGE := Aside0.mk (show Y.heap.size ≤ g5 by rw [hg]; exact HBB.out.size)
                clear HBB hHeld hb hbox hg
                have HBB := n0_
                clear n0_
                refine hK.out _ _ HBB.out (fun hHeld => ?_)
                clear hK K
                refine norm_ (a' := ?_) ?_ ?_
                rotate_left
                · show Act.put _ (some 9) _ = _
                  simp only [Act.put, List.setIfInBounds_toArray, List.set_cons_zero, List.set_cons_succ, i64_w, i32_w]
                  rfl
                have HZ5 := Aside0.mk (show Ze _ g5 from HBOX.out)
                have HG5 := HGE
                clear HBOX HGE
                have hj := hJ145 (g4, g5) _ ⟨HBB.out, ⟨HZ4.out, HG4.out⟩, ⟨HZ5.out, HG5.out⟩, HNE.out⟩
                refine norm_ ?_ hj
                rfl
          · skip
            rintro ⟨g4, g5⟩ wj ⟨hbj, h4j, h5j, hnj⟩
            refine norm_ (a' := ?_) ?_ ?_
            rotate_left
            · show putAll _ _ = _
              simp only [putAll, Act.put, List.setIfInBounds_toArray, List.set_cons_zero, List.set_cons_succ]
              rfl
            have HBB := Aside0.mk hbj
            have hHeld := hbj
            clear hbj h4j h5j hnj
            refine two_ (i := 4) (j := 5) (Ni := (some 8)) (Nj := (some 9)) #[true, true, true, true, true, false, false, false] #[true, true, true, true, false, true, false, false] rfl rfl rfl rfl (two_of HT_.out (by kernel_rfl)) (by decide) (by decide) (fun K hK => ?_) (fun K hK => ?_)
            · skip
              refine box_step ?hg (N := 8) ?hd (cs := #[.bool false, .slice none 0 0]) (t := 41) ?hr ?_; (case hd => rfl); (case hg => rfl); (case hr => first | (go_simp; done) | (go_simp; rfl))
              intro g4 hg wn hbox hb
              have n0_ := Aside0.mk (below_step HBB.out hb)
              have HBOX := Aside0.mk hbox
              have HGE := Aside0.mk (show Y.heap.size ≤ g4 by rw [hg]; exact HBB.out.size)
              clear HBB hHeld hb hbox hg
              have HBB := n0_
              clear n0_
              refine hK.out _ _ HBB.out (fun hHeld => ?_)
              clear hK K
              refine norm_ (a' := ?_) ?_ ?_
              rotate_left
              · show Act.put _ (some 8) _ = _
                simp only [Act.put, List.setIfInBounds_toArray, List.set_cons_zero, List.set_cons_succ, i64_w, i32_w]
                rfl
              have HZ4 := Aside0.mk (show Ze _ g4 from HBOX.out)
              have HG4 := HGE
              clear HBOX HGE
              have hj := hJ134 (g4, 0) _ ⟨HBB.out, ⟨HZ4.out, HG4.out⟩, trivial, trivial⟩
              refine norm_ ?_ hj
              rfl
            · skip
              refine box_step ?hg (N := 9) ?hd (cs := #[.bool false, .slice none 0 0]) (t := 41) ?hr ?_; (case hd => rfl); (case hg => rfl); (case hr => first | (go_simp; done) | (go_simp; rfl))
              intro g5 hg wn hbox hb
              have n0_ := Aside0.mk (below_step HBB.out hb)
              have HBOX := Aside0.mk hbox
              have HGE := Aside0.mk (show Y.heap.size ≤ g5 by rw [hg]; exact HBB.out.size)
              clear HBB hHeld hb hbox hg
              have HBB := n0_
              clear n0_
              refine hK.out _ _ HBB.out (fun hHeld => ?_)
              clear hK K
              refine norm_ (a' := ?_) ?_ ?_
              rotate_left
              · show Act.put _ (some 9) _ = _
                simp only [Act.put, List.setIfInBounds_toArray, List.set_cons_zero, List.set_cons_succ, i64_w, i32_w]
                rfl
              have HZ5 := Aside0.mk (show Ze _ g5 from HBOX.out)
              have HG5 := HGE
              clear HBOX HGE
              have hj := hJ135 (0, g5) _ ⟨HBB.out, trivial, ⟨HZ5.out, HG5.out⟩, trivial⟩
              refine norm_ ?_ hj
              rfl
        · skip
          rintro ⟨g4, g5⟩ wj ⟨hbj, h4j, h5j, hnj⟩
          refine norm_ (a' := ?_) ?_ ?_
          rotate_left
          · show putAll _ _ = _
            simp only [putAll, Act.put, List.setIfInBounds_toArray, List.set_cons_zero, List.set_cons_succ]
            rfl
          have HBB := Aside0.mk hbj
          have hHeld := hbj
          have HZ4 := Aside0.mk h4j.1
          have HG4 := Aside0.mk h4j.2
          have HZ5 := Aside0.mk h5j.1
          have HG5 := Aside0.mk h5j.2
          have HNE := Aside0.mk hnj
          clear hbj h4j h5j hnj
          refine one_ (i := 3) (N := (some 16)) #[true, true, true, true, true, true, false, false] rfl rfl (one_of HT_.out (by kernel_rfl)) (by decide) (fun K hK => ?_)
          refine goes_ Try.func86 (by kernel_rfl) rfl #[.agg #[.bool n2, .slice A2 k2 c2]] (by rfl) rfl rfl (by (try simp only [List.map_toArray, List.map_cons, List.map_nil]); first | done | rfl) ?_
          refine (H2.out _ HBB.out).mono ?_
          rintro e wn ⟨rfl, hb⟩
          refine ⟨_, rfl, ?_⟩
          have HZ4 := Aside0.mk (HZ4.out.below hb)
          have HZ5 := Aside0.mk (HZ5.out.below hb)
          have n0_ := Aside0.mk (below_step HBB.out hb)
          clear HBB hHeld hb
          have HBB := n0_
          clear n0_
          refine hK.out _ _ HBB.out (fun hHeld => ?_)
          clear hK K
          refine norm_ (a' := ?_) ?_ ?_
          rotate_left
          · show Act.put _ (some 16) _ = _
            simp only [Act.put, List.setIfInBounds_toArray, List.set_cons_zero, List.set_cons_succ, i64_w, i32_w]
            rfl
          have hj := hJ1345 (g4, g5) _ ⟨HBB.out, ⟨HZ4.out, HG4.out⟩, ⟨HZ5.out, HG5.out⟩, HNE.out⟩
          refine norm_ ?_ hj
          rfl
      · skip
        rintro ⟨g4, g5⟩ wj ⟨hbj, h4j, h5j, hnj⟩
        refine norm_ (a' := ?_) ?_ ?_
        rotate_left
        · show putAll _ _ = _
          simp only [putAll, Act.put, List.setIfInBounds_toArray, List.set_cons_zero, List.set_cons_succ]
          rfl
        have HBB := Aside0.mk hbj
        have hHeld := hbj
        have HZ5 := Aside0.mk h5j.1
        have HG5 := Aside0.mk h5j.2
        clear hbj h4j h5j hnj
        refine one_ (i := 4) (N := (some 8)) #[true, true, true, true, true, true, false, false] rfl rfl (one_of HT_.out (by kernel_rfl)) (by decide) (fun K hK => ?_)
        refine box_step ?hg (N := 8) ?hd (cs := #[.bool false, .slice none 0 0]) (t := 41) ?hr ?_; (case hd => rfl); (case hg => rfl); (case hr => first | (go_simp; done) | (go_simp; rfl))
        intro g4 hg wn hbox hb
        have HNE := Aside0.mk (show g4 ≠ g5 from fun e => by have := blk_lt HZ5.out; omega)
        have HZ5 := Aside0.mk (HZ5.out.below hb)
        have n0_ := Aside0.mk (below_step HBB.out hb)
        have HBOX := Aside0.mk hbox
        have HGE := Aside0.mk (show Y.heap.size ≤ g4 by rw [hg]; exact HBB.out.size)
        clear HBB hHeld hb hbox hg
        have HBB := n0_
        clear n0_
        refine hK.out _ _ HBB.out (fun hHeld => ?_)
        clear hK K
        refine norm_ (a' := ?_) ?_ ?_
        rotate_left
        · show Act.put _ (some 8) _ = _
          simp only [Act.put, List.setIfInBounds_toArray, List.set_cons_zero, List.set_cons_succ, i64_w, i32_w]
          rfl
        have HZ4 := Aside0.mk (show Ze _ g4 from HBOX.out)
        have HG4 := HGE
        clear HBOX HGE
        have hj := hJ1345 (g4, g5) _ ⟨HBB.out, ⟨HZ4.out, HG4.out⟩, ⟨HZ5.out, HG5.out⟩, HNE.out⟩
        refine norm_ ?_ hj
        rfl
    · skip
      rintro ⟨g4, g5⟩ wj ⟨hbj, h4j, h5j, hnj⟩
      refine norm_ (a' := ?_) ?_ ?_
      rotate_left
      · show putAll _ _ = _
        simp only [putAll, Act.put, List.setIfInBounds_toArray, List.set_cons_zero, List.set_cons_succ]
        rfl
      have HBB := Aside0.mk hbj
      have hHeld := hbj
      have HZ4 := Aside0.mk h4j.1
      have HG4 := Aside0.mk h4j.2
      clear hbj h4j h5j hnj
      refine one_ (i := 5) (N := (some 9)) #[true, true, true, true, true, true, false, false] rfl rfl (one_of HT_.out (by kernel_rfl)) (by decide) (fun K hK => ?_)
      refine box_step ?hg (N := 9) ?hd (cs := #[.bool false, .slice none 0 0]) (t := 41) ?hr ?_; (case hd => rfl); (case hg => rfl); (case hr => first | (go_simp; done) | (go_simp; rfl))
      intro g5 hg wn hbox hb
      have HNE := Aside0.mk (show g4 ≠ g5 from fun e => by have := blk_lt HZ4.out; omega)
      have HZ4 := Aside0.mk (HZ4.out.below hb)
      have n0_ := Aside0.mk (below_step HBB.out hb)
      have HBOX := Aside0.mk hbox
      have HGE := Aside0.mk (show Y.heap.size ≤ g5 by rw [hg]; exact HBB.out.size)
      clear HBB hHeld hb hbox hg
      have HBB := n0_
      clear n0_
      refine hK.out _ _ HBB.out (fun hHeld => ?_)
      clear hK K
      refine norm_ (a' := ?_) ?_ ?_
      rotate_left
      · show Act.put _ (some 9) _ = _
        simp only [Act.put, List.setIfInBounds_toArray, List.set_cons_zero, List.set_cons_succ, i64_w, i32_w]
        rfl
      have HZ5 := Aside0.mk (show Ze _ g5 from HBOX.out)
      have HG5 := HGE
      clear HBOX HGE
      have hj := hJ1345 (g4, g5) _ ⟨HBB.out, ⟨HZ4.out, HG4.out⟩, ⟨HZ5.out, HG5.out⟩, HNE.out⟩
      refine norm_ ?_ hj
      rfl
  · skip
    rintro ⟨g4, g5⟩ wj ⟨hbj, h4j, h5j, hnj⟩
    refine norm_ (a' := ?_) ?_ ?_
    rotate_left
    · show putAll _ _ = _
      simp only [putAll, Act.put, List.setIfInBounds_toArray, List.set_cons_zero, List.set_cons_succ]
      rfl
    have HBB := Aside0.mk hbj
    have hHeld := hbj
    have HZ4 := Aside0.mk h4j.1
    have HG4 := Aside0.mk h4j.2
    have HZ5 := Aside0.mk h5j.1
    have HG5 := Aside0.mk h5j.2
    have HNE := Aside0.mk hnj
    clear hbj h4j h5j hnj
    refine one_ (i := 6) (N := none) #[true, true, true, true, true, true, true, false] rfl rfl (one_of HT_.out (by kernel_rfl)) (by decide) (fun K hK => ?_)
    obtain ⟨d0, d1, z0, z1⟩ := two_cells HZ4.out
    refine skip_ (w1 := ?_) (by rfl) rfl ?_ ?_
    rotate_left
    · go_simp
      rfl
    have hbs := below_set (below_set HBB.out HG4.out (j := 0) (v := .bool n1)) HG4.out (j := 1) (v := .slice A1 k1 c1)
    have hws := two_put (a' := .bool n1) (b' := .slice A1 k1 c1) HZ4.out
    have hz5 := two_far HZ5.out HNE.out (a := .bool n1) (b := .slice A1 k1 c1)
    refine hK.out _ _ hbs (fun hHeld => ?_)
    clear hK K d0 d1 z0 z1
    generalize (wj.setCell ⟨g4, 0, none⟩ (.bool n1)).setCell ⟨g4, 1, none⟩ (.slice A1 k1 c1) = wk at hbs hws hz5 hHeld ⊢
    have HX4 := Aside0.mk hws
    have HZ5 := Aside0.mk hz5
    have HBB := Aside0.mk hbs
    clear hws hz5 hbs
    refine one_ (i := 7) (N := none) #[true, true, true, true, true, true, true, true] rfl rfl (one_of HT_.out (by kernel_rfl)) (by decide) (fun K hK => ?_)
    obtain ⟨d0, d1, z0, z1⟩ := two_cells HZ5.out
    refine skip_ (w1 := ?_) (by rfl) rfl ?_ ?_
    rotate_left
    · go_simp
      rfl
    have hbs := below_set (below_set HBB.out HG5.out (j := 0) (v := .bool n2)) HG5.out (j := 1) (v := .slice A2 k2 c2)
    have hws := two_put (a' := .bool n2) (b' := .slice A2 k2 c2) HZ5.out
    have hx4 := two_far HX4.out (Ne.symm HNE.out) (a := .bool n2) (b := .slice A2 k2 c2)
    refine hK.out _ _ hbs (fun hHeld => ?_)
    clear hK K d0 d1 z0 z1
    refine done_ (done_of HT_.out (by kernel_rfl)) ?_
    exact HQ.out g4 g5 _ hbs HG4.out HG5.out hx4 hws
def TCmp : Bool × List (List Nat × List Nat) := (true, [([], []), ([0], [0]), ([], []), ([2, 1], [2]), ([], []), ([], []), ([4, 1, 3, 0, 1, 4, 5], [1, 4]), ([5, 3, 6, 0, 1, 2, 3, 4, 5, 6], [3, 5])])
def BCmp : List Nat := [0, 1, 0, 7, 0, 0, 63, 127]
def OCmp : Array Oper := #[{ dst := some 7, op := Op.load 41 (Operand.tmp 2), type := 41, pos := "ref.go:63", after := #[], guard := none }, { dst := some 8, op := Op.call { callee := Callee.value (Operand.func 86), args := #[Operand.tmp 7], argTypes := #[41] }, type := 41, pos := "ref.go:63", after := #[{ on := 0, ground := Ground.data }], guard := none }, { dst := some 9, op := Op.load 41 (Operand.tmp 3), type := 41, pos := "ref.go:63", after := #[], guard := none }, { dst := some 10, op := Op.call { callee := Callee.value (Operand.func 86), args := #[Operand.tmp 9], argTypes := #[41] }, type := 41, pos := "ref.go:63", after := #[{ on := 2, ground := Ground.data }, { on := 1, ground := Ground.chain }], guard := none }, { dst := some 5, op := Op.alloc 41, type := 0, pos := "ref.go:63", after := #[], guard := none }, { dst := some 6, op := Op.alloc 41, type := 0, pos := "ref.go:63", after := #[], guard := none }, { dst := none, op := Op.store 41 (Operand.tmp 5) (Operand.tmp 8), type := 0, pos := "ref.go:63", after := #[{ on := 4, ground := Ground.data }, { on := 1, ground := Ground.data }, { on := 3, ground := Ground.chain }, { on := 0, ground := Ground.phase }, { on := 1, ground := Ground.phase }, { on := 2, ground := Ground.textOnly Departure.lateStores }, { on := 3, ground := Ground.textOnly Departure.lateStoresUnsure }, { on := 4, ground := Ground.phase }, { on := 5, ground := Ground.phase }], guard := none }, { dst := none, op := Op.store 41 (Operand.tmp 6) (Operand.tmp 10), type := 0, pos := "ref.go:63", after := #[{ on := 5, ground := Ground.data }, { on := 3, ground := Ground.data }, { on := 6, ground := Ground.chain }, { on := 0, ground := Ground.phase }, { on := 1, ground := Ground.phase }, { on := 2, ground := Ground.phase }, { on := 3, ground := Ground.phase }, { on := 4, ground := Ground.phase }, { on := 5, ground := Ground.phase }, { on := 6, ground := Ground.phase }], guard := none }]
theorem tabCmp : rtab .any OCmp = TCmp := by kernel_rfl
theorem bitsCmp : waitsOk TCmp.2 BCmp = true := by kernel_rfl
set_option maxHeartbeats 16000000 in
set_option maxRecDepth 100000 in
theorem regCmp {u0 u1 u2 u3 u4 u5 u6 u7 u8 u9 u10 u11 u12 u13 u14 u15 u16 u17 u18 u19 u20 u21 u22 u23 u24 u25 u26 u27 u28 u29 u30 u31 u32 u33 u34 u35 u36 u37 u38 u39 : Value} {Q : Exit → Act → World → Prop} (hP : ∀ c (a : Act) d v w, Q (.panic c) (a.put d v) w → Q (.panic c) a w) {Y : World} {gx gy : Nat} {n1 n2 : Bool} {A1 A2 : Option Addr} {k1 c1 k2 c2 : Nat} (hx : NumAt Y gx n1 A1 k1 c1) (hy : NumAt Y gy n2 A2 k2 c2) (h1 : Is Y n1 A1 k1 c1) (h2 : Is Y n2 A2 k2 c2)
    (hQ : ∀ ga gb W1, Below Y.heap.size Y W1 → Y.heap.size ≤ ga → Y.heap.size ≤ gb → NumAt W1 ga n1 A1 k1 c1 → NumAt W1 gb n2 A2 k2 c2 → Q .normal ⟨#[u0, u1, .pointer (some ⟨gx, 0, none⟩), .pointer (some ⟨gy, 0, none⟩), u4, .pointer (some ⟨ga, 0, none⟩), .pointer (some ⟨gb, 0, none⟩), .agg #[.bool n1, .slice A1 k1 c1], .agg #[.bool n1, .slice A1 k1 c1], .agg #[.bool n2, .slice A2 k2 c2], .agg #[.bool n2, .slice A2 k2 c2], u11, u12, u13, u14, u15, u16, u17, u18, u19, u20, u21, u22, u23, u24, u25, u26, u27, u28, u29, u30, u31, u32, u33, u34, u35, u36, u37, u38, u39], []⟩ W1) :
    (Code.region 1 OCmp true).wp Try.prog Q ⟨#[u0, u1, .pointer (some ⟨gx, 0, none⟩), .pointer (some ⟨gy, 0, none⟩), u4, u5, u6, u7, u8, u9, u10, u11, u12, u13, u14, u15, u16, u17, u18, u19, u20, u21, u22, u23, u24, u25, u26, u27, u28, u29, u30, u31, u32, u33, u34, u35, u36, u37, u38, u39], []⟩ Y := by
  unfold OCmp
  have hu := Try.underlying41
  have HX := Aside0.mk hx
  have HY := Aside0.mk hy
  have H1 := Aside0.mk h1
  have H2 := Aside0.mk h2
  have HQ := Aside0.mk hQ
  have HP := Aside0.mk hP
  have HSZ : (Try.prog.info? 41).map (·.size) = some 2 := by kernel_rfl
  clear hx hy h1 h2 hQ hP
  have HBB := Aside0.mk (below_drew (Below.refl Y.heap.size Y))
  refine start_ (n := 8) (S := fun w' => Below Y.heap.size Y w') (ds := []) #[false, false, false, false, false, false, false, false] (by kernel_rfl) rfl rfl HBB.out (fun hHeld => ?_); refine with_tabW tabCmp bitsCmp (fun HT_ HW_ => ?_)
  generalize Y.drew = wd at HBB hHeld ⊢
  refine take_ (i := 0) (N := (some 7)) (v := (.agg #[.bool n1, .slice A1 k1 c1])) (a' := ?_) #[true, false, false, false, false, false, false, false] rfl rfl (take_ofW HT_.out HW_.out (by kernel_rfl)) (fun _ _ _ h => HP.out _ _ _ _ _ h) (Or.inl ⟨by rfl, ?_⟩) hHeld ?_ ?_
  · (intro w' hs; obtain ⟨d0, d1, _, _⟩ := two_cells ((hs.block _ (blk_lt HX.out)).trans HX.out); go_simp)
  rotate_left; (simp only [Act.put, List.setIfInBounds_toArray, List.set_cons_zero, List.set_cons_succ, i64_w, i32_w]; rfl)
  refine take_ (i := 2) (N := (some 9)) (v := (.agg #[.bool n2, .slice A2 k2 c2])) (a' := ?_) #[true, false, true, false, false, false, false, false] rfl rfl (take_ofW HT_.out HW_.out (by kernel_rfl)) (fun _ _ _ h => HP.out _ _ _ _ _ h) (Or.inl ⟨by rfl, ?_⟩) hHeld ?_ ?_
  · (intro w' hs; obtain ⟨d0, d1, _, _⟩ := two_cells ((hs.block _ (blk_lt HY.out)).trans HY.out); go_simp)
  rotate_left; (simp only [Act.put, List.setIfInBounds_toArray, List.set_cons_zero, List.set_cons_succ, i64_w, i32_w]; rfl)
  refine join_ (σ := Nat × Nat) 2 #[true, true, true, true, true, true, false, false] (fun s => [(8, .agg #[.bool n1, .slice A1 k1 c1]), (10, .agg #[.bool n2, .slice A2 k2 c2]), (5, .pointer (some ⟨s.1, 0, none⟩)), (6, .pointer (some ⟨s.2, 0, none⟩))]) (fun s w' => Below Y.heap.size Y w' ∧ (Ze w' s.1 ∧ Y.heap.size ≤ s.1) ∧ (Ze w' s.2 ∧ Y.heap.size ≤ s.2) ∧ s.1 ≠ s.2) ?_ ?_
  rotate_left
  · intro hJ1345
    refine join_ (σ := Nat × Nat) 3 #[true, true, true, true, true, false, false, false] (fun s => [(8, .agg #[.bool n1, .slice A1 k1 c1]), (10, .agg #[.bool n2, .slice A2 k2 c2]), (5, .pointer (some ⟨s.1, 0, none⟩))]) (fun s w' => Below Y.heap.size Y w' ∧ (Ze w' s.1 ∧ Y.heap.size ≤ s.1) ∧ True ∧ True) ?_ ?_
    rotate_left
    · intro hJ134
      refine join_ (σ := Nat × Nat) 3 #[true, true, true, true, false, true, false, false] (fun s => [(8, .agg #[.bool n1, .slice A1 k1 c1]), (10, .agg #[.bool n2, .slice A2 k2 c2]), (6, .pointer (some ⟨s.2, 0, none⟩))]) (fun s w' => Below Y.heap.size Y w' ∧ True ∧ (Ze w' s.2 ∧ Y.heap.size ≤ s.2) ∧ True) ?_ ?_
      rotate_left
      · intro hJ135
        refine join_ (σ := Nat × Nat) 3 #[true, true, true, false, true, true, false, false] (fun s => [(8, .agg #[.bool n1, .slice A1 k1 c1]), (5, .pointer (some ⟨s.1, 0, none⟩)), (6, .pointer (some ⟨s.2, 0, none⟩))]) (fun s w' => Below Y.heap.size Y w' ∧ (Ze w' s.1 ∧ Y.heap.size ≤ s.1) ∧ (Ze w' s.2 ∧ Y.heap.size ≤ s.2) ∧ s.1 ≠ s.2) ?_ ?_
        rotate_left
        · intro hJ145
          refine join_ (σ := Nat × Nat) 4 #[true, true, true, true, false, false, false, false] (fun s => [(8, .agg #[.bool n1, .slice A1 k1 c1]), (10, .agg #[.bool n2, .slice A2 k2 c2])]) (fun s w' => Below Y.heap.size Y w' ∧ True ∧ True ∧ True) ?_ ?_
          rotate_left
          · intro hJ13
            refine join_ (σ := Nat × Nat) 4 #[true, true, true, false, true, false, false, false] (fun s => [(8, .agg #[.bool n1, .slice A1 k1 c1]), (5, .pointer (some ⟨s.1, 0, none⟩))]) (fun s w' => Below Y.heap.size Y w' ∧ (Ze w' s.1 ∧ Y.heap.size ≤ s.1) ∧ True ∧ True) ?_ ?_
            rotate_left
            · intro hJ14
              refine join_ (σ := Nat × Nat) 4 #[true, true, true, false, false, true, false, false] (fun s => [(8, .agg #[.bool n1, .slice A1 k1 c1]), (6, .pointer (some ⟨s.2, 0, none⟩))]) (fun s w' => Below Y.heap.size Y w' ∧ True ∧ (Ze w' s.2 ∧ Y.heap.size ≤ s.2) ∧ True) ?_ ?_
              rotate_left
              · intro hJ15
                refine join_ (σ := Nat × Nat) 4 #[true, false, true, false, true, true, false, false] (fun s => [(5, .pointer (some ⟨s.1, 0, none⟩)), (6, .pointer (some ⟨s.2, 0, none⟩))]) (fun s w' => Below Y.heap.size Y w' ∧ (Ze w' s.1 ∧ Y.heap.size ≤ s.1) ∧ (Ze w' s.2 ∧ Y.heap.size ≤ s.2) ∧ s.1 ≠ s.2) ?_ ?_
                rotate_left
                · intro hJ45
                  refine join_ (σ := Nat × Nat) 5 #[true, true, true, false, false, false, false, false] (fun s => [(8, .agg #[.bool n1, .slice A1 k1 c1])]) (fun s w' => Below Y.heap.size Y w' ∧ True ∧ True ∧ True) ?_ ?_
                  rotate_left
                  · intro hJ1
                    refine join_ (σ := Nat × Nat) 5 #[true, false, true, false, true, false, false, false] (fun s => [(5, .pointer (some ⟨s.1, 0, none⟩))]) (fun s w' => Below Y.heap.size Y w' ∧ (Ze w' s.1 ∧ Y.heap.size ≤ s.1) ∧ True ∧ True) ?_ ?_
                    rotate_left
                    · intro hJ4
                      refine join_ (σ := Nat × Nat) 5 #[true, false, true, false, false, true, false, false] (fun s => [(6, .pointer (some ⟨s.2, 0, none⟩))]) (fun s w' => Below Y.heap.size Y w' ∧ True ∧ (Ze w' s.2 ∧ Y.heap.size ≤ s.2) ∧ True) ?_ ?_
                      rotate_left
                      · intro hJ5
                        refine three_ (i := 1) (j := 4) (k := 5) (Ni := (some 8)) (Nj := (some 5)) (Nk := (some 6)) #[true, true, true, false, false, false, false, false] #[true, false, true, false, true, false, false, false] #[true, false, true, false, false, true, false, false] rfl rfl rfl rfl rfl rfl (three_of HT_.out (by kernel_rfl)) (by decide) (by decide) (by decide) (fun K hK => ?_) (fun K hK => ?_) (fun K hK => ?_)
                        · skip
                          refine goes_ Try.func86 (by kernel_rfl) rfl #[.agg #[.bool n1, .slice A1 k1 c1]] (by rfl) rfl rfl (by (try simp only [List.map_toArray, List.map_cons, List.map_nil]); first | done | rfl) ?_
                          refine (H1.out _ HBB.out).mono ?_
                          rintro e wn ⟨rfl, hb⟩
                          refine ⟨_, rfl, ?_⟩
                          have n0_ := Aside0.mk (below_step HBB.out hb)
                          clear HBB hHeld hb
                          have HBB := n0_
                          clear n0_
                          refine hK.out _ _ HBB.out (fun hHeld => ?_)
                          clear hK K
                          refine norm_ (a' := ?_) ?_ ?_
                          rotate_left
                          · show Act.put _ (some 8) _ = _
                            simp only [Act.put, List.setIfInBounds_toArray, List.set_cons_zero, List.set_cons_succ, i64_w, i32_w]
                            rfl
                          have hj := hJ1 (0, 0) _ ⟨HBB.out, trivial, trivial, trivial⟩
                          refine norm_ ?_ hj
                          rfl
                        · skip
                          refine box_step ?hg (N := 5) ?hd (cs := #[.bool false, .slice none 0 0]) (t := 41) ?hr ?_; (case hd => rfl); (case hg => rfl); (case hr => first | (go_simp; done) | (go_simp; rfl))
                          intro g4 hg wn hbox hb
                          have n0_ := Aside0.mk (below_step HBB.out hb)
                          have HBOX := Aside0.mk hbox
                          have HGE := Aside0.mk (show Y.heap.size ≤ g4 by rw [hg]; exact HBB.out.size)
                          clear HBB hHeld hb hbox hg
                          have HBB := n0_
                          clear n0_
                          refine hK.out _ _ HBB.out (fun hHeld => ?_)
                          clear hK K
                          refine norm_ (a' := ?_) ?_ ?_
                          rotate_left
                          · show Act.put _ (some 5) _ = _
                            simp only [Act.put, List.setIfInBounds_toArray, List.set_cons_zero, List.set_cons_succ, i64_w, i32_w]
                            rfl
                          have HZ4 := Aside0.mk (show Ze _ g4 from HBOX.out)
                          have HG4 := HGE
                          clear HBOX HGE
                          have hj := hJ4 (g4, 0) _ ⟨HBB.out, ⟨HZ4.out, HG4.out⟩, trivial, trivial⟩
                          refine norm_ ?_ hj
                          rfl
                        · skip
                          refine box_step ?hg (N := 6) ?hd (cs := #[.bool false, .slice none 0 0]) (t := 41) ?hr ?_; (case hd => rfl); (case hg => rfl); (case hr => first | (go_simp; done) | (go_simp; rfl))
                          intro g5 hg wn hbox hb
                          have n0_ := Aside0.mk (below_step HBB.out hb)
                          have HBOX := Aside0.mk hbox
                          have HGE := Aside0.mk (show Y.heap.size ≤ g5 by rw [hg]; exact HBB.out.size)
                          clear HBB hHeld hb hbox hg
                          have HBB := n0_
                          clear n0_
                          refine hK.out _ _ HBB.out (fun hHeld => ?_)
                          clear hK K
                          refine norm_ (a' := ?_) ?_ ?_
                          rotate_left
                          · show Act.put _ (some 6) _ = _
                            simp only [Act.put, List.setIfInBounds_toArray, List.set_cons_zero, List.set_cons_succ, i64_w, i32_w]
                            rfl
                          have HZ5 := Aside0.mk (show Ze _ g5 from HBOX.out)
                          have HG5 := HGE
                          clear HBOX HGE
                          have hj := hJ5 (0, g5) _ ⟨HBB.out, trivial, ⟨HZ5.out, HG5.out⟩, trivial⟩
                          refine norm_ ?_ hj
                          rfl
                      · skip
                        rintro ⟨g4, g5⟩ wj ⟨hbj, h4j, h5j, hnj⟩
                        refine norm_ (a' := ?_) ?_ ?_
                        rotate_left
                        · show putAll _ _ = _
                          simp only [putAll, Act.put, List.setIfInBounds_toArray, List.set_cons_zero, List.set_cons_succ]
                          rfl
                        have HBB := Aside0.mk hbj
                        have hHeld := hbj
                        have HZ5 := Aside0.mk h5j.1
                        have HG5 := Aside0.mk h5j.2
                        clear hbj h4j h5j hnj
                        refine two_ (i := 1) (j := 4) (Ni := (some 8)) (Nj := (some 5)) #[true, true, true, false, false, true, false, false] #[true, false, true, false, true, true, false, false] rfl rfl rfl rfl (two_of HT_.out (by kernel_rfl)) (by decide) (by decide) (fun K hK => ?_) (fun K hK => ?_)
                        · skip
                          refine goes_ Try.func86 (by kernel_rfl) rfl #[.agg #[.bool n1, .slice A1 k1 c1]] (by rfl) rfl rfl (by (try simp only [List.map_toArray, List.map_cons, List.map_nil]); first | done | rfl) ?_
                          refine (H1.out _ HBB.out).mono ?_
                          rintro e wn ⟨rfl, hb⟩
                          refine ⟨_, rfl, ?_⟩
                          have HZ5 := Aside0.mk (HZ5.out.below hb)
                          have n0_ := Aside0.mk (below_step HBB.out hb)
                          clear HBB hHeld hb
                          have HBB := n0_
                          clear n0_
                          refine hK.out _ _ HBB.out (fun hHeld => ?_)
                          clear hK K
                          refine norm_ (a' := ?_) ?_ ?_
                          rotate_left
                          · show Act.put _ (some 8) _ = _
                            simp only [Act.put, List.setIfInBounds_toArray, List.set_cons_zero, List.set_cons_succ, i64_w, i32_w]
                            rfl
                          have hj := hJ15 (0, g5) _ ⟨HBB.out, trivial, ⟨HZ5.out, HG5.out⟩, trivial⟩
                          refine norm_ ?_ hj
                          rfl
                        · skip
                          refine box_step ?hg (N := 5) ?hd (cs := #[.bool false, .slice none 0 0]) (t := 41) ?hr ?_; (case hd => rfl); (case hg => rfl); (case hr => first | (go_simp; done) | (go_simp; rfl))
                          intro g4 hg wn hbox hb
                          have HNE := Aside0.mk (show g4 ≠ g5 from fun e => by have := blk_lt HZ5.out; omega)
                          have HZ5 := Aside0.mk (HZ5.out.below hb)
                          have n0_ := Aside0.mk (below_step HBB.out hb)
                          have HBOX := Aside0.mk hbox
                          have HGE := Aside0.mk (show Y.heap.size ≤ g4 by rw [hg]; exact HBB.out.size)
                          clear HBB hHeld hb hbox hg
                          have HBB := n0_
                          clear n0_
                          refine hK.out _ _ HBB.out (fun hHeld => ?_)
                          clear hK K
                          refine norm_ (a' := ?_) ?_ ?_
                          rotate_left
                          · show Act.put _ (some 5) _ = _
                            simp only [Act.put, List.setIfInBounds_toArray, List.set_cons_zero, List.set_cons_succ, i64_w, i32_w]
                            rfl
                          have HZ4 := Aside0.mk (show Ze _ g4 from HBOX.out)
                          have HG4 := HGE
                          clear HBOX HGE
                          have hj := hJ45 (g4, g5) _ ⟨HBB.out, ⟨HZ4.out, HG4.out⟩, ⟨HZ5.out, HG5.out⟩, HNE.out⟩
                          refine norm_ ?_ hj
                          rfl
                    · skip
                      rintro ⟨g4, g5⟩ wj ⟨hbj, h4j, h5j, hnj⟩
                      refine norm_ (a' := ?_) ?_ ?_
                      rotate_left
                      · show putAll _ _ = _
                        simp only [putAll, Act.put, List.setIfInBounds_toArray, List.set_cons_zero, List.set_cons_succ]
                        rfl
                      have HBB := Aside0.mk hbj
                      have hHeld := hbj
                      have HZ4 := Aside0.mk h4j.1
                      have HG4 := Aside0.mk h4j.2
                      clear hbj h4j h5j hnj
                      refine two_ (i := 1) (j := 5) (Ni := (some 8)) (Nj := (some 6)) #[true, true, true, false, true, false, false, false] #[true, false, true, false, true, true, false, false] rfl rfl rfl rfl (two_of HT_.out (by kernel_rfl)) (by decide) (by decide) (fun K hK => ?_) (fun K hK => ?_)
                      · skip
                        refine goes_ Try.func86 (by kernel_rfl) rfl #[.agg #[.bool n1, .slice A1 k1 c1]] (by rfl) rfl rfl (by (try simp only [List.map_toArray, List.map_cons, List.map_nil]); first | done | rfl) ?_
                        refine (H1.out _ HBB.out).mono ?_
                        rintro e wn ⟨rfl, hb⟩
                        refine ⟨_, rfl, ?_⟩
                        have HZ4 := Aside0.mk (HZ4.out.below hb)
                        have n0_ := Aside0.mk (below_step HBB.out hb)
                        clear HBB hHeld hb
                        have HBB := n0_
                        clear n0_
                        refine hK.out _ _ HBB.out (fun hHeld => ?_)
                        clear hK K
                        refine norm_ (a' := ?_) ?_ ?_
                        rotate_left
                        · show Act.put _ (some 8) _ = _
                          simp only [Act.put, List.setIfInBounds_toArray, List.set_cons_zero, List.set_cons_succ, i64_w, i32_w]
                          rfl
                        have hj := hJ14 (g4, 0) _ ⟨HBB.out, ⟨HZ4.out, HG4.out⟩, trivial, trivial⟩
                        refine norm_ ?_ hj
                        rfl
                      · skip
                        refine box_step ?hg (N := 6) ?hd (cs := #[.bool false, .slice none 0 0]) (t := 41) ?hr ?_; (case hd => rfl); (case hg => rfl); (case hr => first | (go_simp; done) | (go_simp; rfl))
                        intro g5 hg wn hbox hb
                        have HNE := Aside0.mk (show g4 ≠ g5 from fun e => by have := blk_lt HZ4.out; omega)
                        have HZ4 := Aside0.mk (HZ4.out.below hb)
                        have n0_ := Aside0.mk (below_step HBB.out hb)
                        have HBOX := Aside0.mk hbox
                        have HGE := Aside0.mk (show Y.heap.size ≤ g5 by rw [hg]; exact HBB.out.size)
                        clear HBB hHeld hb hbox hg
                        have HBB := n0_
                        clear n0_
                        refine hK.out _ _ HBB.out (fun hHeld => ?_)
                        clear hK K
                        refine norm_ (a' := ?_) ?_ ?_
                        rotate_left
                        · show Act.put _ (some 6) _ = _
                          simp only [Act.put, List.setIfInBounds_toArray, List.set_cons_zero, List.set_cons_succ, i64_w, i32_w]
                          rfl
                        have HZ5 := Aside0.mk (show Ze _ g5 from HBOX.out)
                        have HG5 := HGE
                        clear HBOX HGE
                        have hj := hJ45 (g4, g5) _ ⟨HBB.out, ⟨HZ4.out, HG4.out⟩, ⟨HZ5.out, HG5.out⟩, HNE.out⟩
                        refine norm_ ?_ hj
                        rfl
                  · skip
                    rintro ⟨g4, g5⟩ wj ⟨hbj, h4j, h5j, hnj⟩
                    refine norm_ (a' := ?_) ?_ ?_
                    rotate_left
                    · show putAll _ _ = _
                      simp only [putAll, Act.put, List.setIfInBounds_toArray, List.set_cons_zero, List.set_cons_succ]
                      rfl
                    have HBB := Aside0.mk hbj
                    have hHeld := hbj
                    clear hbj h4j h5j hnj
                    refine three_ (i := 3) (j := 4) (k := 5) (Ni := (some 10)) (Nj := (some 5)) (Nk := (some 6)) #[true, true, true, true, false, false, false, false] #[true, true, true, false, true, false, false, false] #[true, true, true, false, false, true, false, false] rfl rfl rfl rfl rfl rfl (three_of HT_.out (by kernel_rfl)) (by decide) (by decide) (by decide) (fun K hK => ?_) (fun K hK => ?_) (fun K hK => ?_)
                    · skip
                      refine goes_ Try.func86 (by kernel_rfl) rfl #[.agg #[.bool n2, .slice A2 k2 c2]] (by rfl) rfl rfl (by (try simp only [List.map_toArray, List.map_cons, List.map_nil]); first | done | rfl) ?_
                      refine (H2.out _ HBB.out).mono ?_
                      rintro e wn ⟨rfl, hb⟩
                      refine ⟨_, rfl, ?_⟩
                      have n0_ := Aside0.mk (below_step HBB.out hb)
                      clear HBB hHeld hb
                      have HBB := n0_
                      clear n0_
                      refine hK.out _ _ HBB.out (fun hHeld => ?_)
                      clear hK K
                      refine norm_ (a' := ?_) ?_ ?_
                      rotate_left
                      · show Act.put _ (some 10) _ = _
                        simp only [Act.put, List.setIfInBounds_toArray, List.set_cons_zero, List.set_cons_succ, i64_w, i32_w]
                        rfl
                      have hj := hJ13 (0, 0) _ ⟨HBB.out, trivial, trivial, trivial⟩
                      refine norm_ ?_ hj
                      rfl
                    · skip
                      refine box_step ?hg (N := 5) ?hd (cs := #[.bool false, .slice none 0 0]) (t := 41) ?hr ?_; (case hd => rfl); (case hg => rfl); (case hr => first | (go_simp; done) | (go_simp; rfl))
                      intro g4 hg wn hbox hb
                      have n0_ := Aside0.mk (below_step HBB.out hb)
                      have HBOX := Aside0.mk hbox
                      have HGE := Aside0.mk (show Y.heap.size ≤ g4 by rw [hg]; exact HBB.out.size)
                      clear HBB hHeld hb hbox hg
                      have HBB := n0_
                      clear n0_
                      refine hK.out _ _ HBB.out (fun hHeld => ?_)
                      clear hK K
                      refine norm_ (a' := ?_) ?_ ?_
                      rotate_left
                      · show Act.put _ (some 5) _ = _
                        simp only [Act.put, List.setIfInBounds_toArray, List.set_cons_zero, List.set_cons_succ, i64_w, i32_w]
                        rfl
                      have HZ4 := Aside0.mk (show Ze _ g4 from HBOX.out)
                      have HG4 := HGE
                      clear HBOX HGE
                      have hj := hJ14 (g4, 0) _ ⟨HBB.out, ⟨HZ4.out, HG4.out⟩, trivial, trivial⟩
                      refine norm_ ?_ hj
                      rfl
                    · skip
                      refine box_step ?hg (N := 6) ?hd (cs := #[.bool false, .slice none 0 0]) (t := 41) ?hr ?_; (case hd => rfl); (case hg => rfl); (case hr => first | (go_simp; done) | (go_simp; rfl))
                      intro g5 hg wn hbox hb
                      have n0_ := Aside0.mk (below_step HBB.out hb)
                      have HBOX := Aside0.mk hbox
                      have HGE := Aside0.mk (show Y.heap.size ≤ g5 by rw [hg]; exact HBB.out.size)
                      clear HBB hHeld hb hbox hg
                      have HBB := n0_
                      clear n0_
                      refine hK.out _ _ HBB.out (fun hHeld => ?_)
                      clear hK K
                      refine norm_ (a' := ?_) ?_ ?_
                      rotate_left
                      · show Act.put _ (some 6) _ = _
                        simp only [Act.put, List.setIfInBounds_toArray, List.set_cons_zero, List.set_cons_succ, i64_w, i32_w]
                        rfl
                      have HZ5 := Aside0.mk (show Ze _ g5 from HBOX.out)
                      have HG5 := HGE
                      clear HBOX HGE
                      have hj := hJ15 (0, g5) _ ⟨HBB.out, trivial, ⟨HZ5.out, HG5.out⟩, trivial⟩
                      refine norm_ ?_ hj
                      rfl
                · skip
                  rintro ⟨g4, g5⟩ wj ⟨hbj, h4j, h5j, hnj⟩
                  refine norm_ (a' := ?_) ?_ ?_
                  rotate_left
                  · show putAll _ _ = _
                    simp only [putAll, Act.put, List.setIfInBounds_toArray, List.set_cons_zero, List.set_cons_succ]
                    rfl
                  have HBB := Aside0.mk hbj
                  have hHeld := hbj
                  have HZ4 := Aside0.mk h4j.1
                  have HG4 := Aside0.mk h4j.2
                  have HZ5 := Aside0.mk h5j.1
                  have HG5 := Aside0.mk h5j.2
                  have HNE := Aside0.mk hnj
                  clear hbj h4j h5j hnj
                  refine one_ (i := 1) (N := (some 8)) #[true, true, true, false, true, true, false, false] rfl rfl (one_of HT_.out (by kernel_rfl)) (by decide) (fun K hK => ?_)
                  refine goes_ Try.func86 (by kernel_rfl) rfl #[.agg #[.bool n1, .slice A1 k1 c1]] (by rfl) rfl rfl (by (try simp only [List.map_toArray, List.map_cons, List.map_nil]); first | done | rfl) ?_
                  refine (H1.out _ HBB.out).mono ?_
                  rintro e wn ⟨rfl, hb⟩
                  refine ⟨_, rfl, ?_⟩
                  have HZ4 := Aside0.mk (HZ4.out.below hb)
                  have HZ5 := Aside0.mk (HZ5.out.below hb)
                  have n0_ := Aside0.mk (below_step HBB.out hb)
                  clear HBB hHeld hb
                  have HBB := n0_
                  clear n0_
                  refine hK.out _ _ HBB.out (fun hHeld => ?_)
                  clear hK K
                  refine norm_ (a' := ?_) ?_ ?_
                  rotate_left
                  · show Act.put _ (some 8) _ = _
                    simp only [Act.put, List.setIfInBounds_toArray, List.set_cons_zero, List.set_cons_succ, i64_w, i32_w]
                    rfl
                  have hj := hJ145 (g4, g5) _ ⟨HBB.out, ⟨HZ4.out, HG4.out⟩, ⟨HZ5.out, HG5.out⟩, HNE.out⟩
                  refine norm_ ?_ hj
                  rfl
              · skip
                rintro ⟨g4, g5⟩ wj ⟨hbj, h4j, h5j, hnj⟩
                refine norm_ (a' := ?_) ?_ ?_
                rotate_left
                · show putAll _ _ = _
                  simp only [putAll, Act.put, List.setIfInBounds_toArray, List.set_cons_zero, List.set_cons_succ]
                  rfl
                have HBB := Aside0.mk hbj
                have hHeld := hbj
                have HZ5 := Aside0.mk h5j.1
                have HG5 := Aside0.mk h5j.2
                clear hbj h4j h5j hnj
                refine two_ (i := 3) (j := 4) (Ni := (some 10)) (Nj := (some 5)) #[true, true, true, true, false, true, false, false] #[true, true, true, false, true, true, false, false] rfl rfl rfl rfl (two_of HT_.out (by kernel_rfl)) (by decide) (by decide) (fun K hK => ?_) (fun K hK => ?_)
                · skip
                  refine goes_ Try.func86 (by kernel_rfl) rfl #[.agg #[.bool n2, .slice A2 k2 c2]] (by rfl) rfl rfl (by (try simp only [List.map_toArray, List.map_cons, List.map_nil]); first | done | rfl) ?_
                  refine (H2.out _ HBB.out).mono ?_
                  rintro e wn ⟨rfl, hb⟩
                  refine ⟨_, rfl, ?_⟩
                  have HZ5 := Aside0.mk (HZ5.out.below hb)
                  have n0_ := Aside0.mk (below_step HBB.out hb)
                  clear HBB hHeld hb
                  have HBB := n0_
                  clear n0_
                  refine hK.out _ _ HBB.out (fun hHeld => ?_)
                  clear hK K
                  refine norm_ (a' := ?_) ?_ ?_
                  rotate_left
                  · show Act.put _ (some 10) _ = _
                    simp only [Act.put, List.setIfInBounds_toArray, List.set_cons_zero, List.set_cons_succ, i64_w, i32_w]
                    rfl
                  have hj := hJ135 (0, g5) _ ⟨HBB.out, trivial, ⟨HZ5.out, HG5.out⟩, trivial⟩
                  refine norm_ ?_ hj
                  rfl
                · skip
                  refine box_step ?hg (N := 5) ?hd (cs := #[.bool false, .slice none 0 0]) (t := 41) ?hr ?_; (case hd => rfl); (case hg => rfl); (case hr => first | (go_simp; done) | (go_simp; rfl))
                  intro g4 hg wn hbox hb
                  have HNE := Aside0.mk (show g4 ≠ g5 from fun e => by have := blk_lt HZ5.out; omega)
                  have HZ5 := Aside0.mk (HZ5.out.below hb)
                  have n0_ := Aside0.mk (below_step HBB.out hb)
                  have HBOX := Aside0.mk hbox
                  have HGE := Aside0.mk (show Y.heap.size ≤ g4 by rw [hg]; exact HBB.out.size)
                  clear HBB hHeld hb hbox hg
                  have HBB := n0_
                  clear n0_
                  refine hK.out _ _ HBB.out (fun hHeld => ?_)
                  clear hK K
                  refine norm_ (a' := ?_) ?_ ?_
                  rotate_left
                  · show Act.put _ (some 5) _ = _
                    simp only [Act.put, List.setIfInBounds_toArray, List.set_cons_zero, List.set_cons_succ, i64_w, i32_w]
                    rfl
                  have HZ4 := Aside0.mk (show Ze _ g4 from HBOX.out)
                  have HG4 := HGE
                  clear HBOX HGE
                  have hj := hJ145 (g4, g5) _ ⟨HBB.out, ⟨HZ4.out, HG4.out⟩, ⟨HZ5.out, HG5.out⟩, HNE.out⟩
                  refine norm_ ?_ hj
                  rfl
            · skip
              rintro ⟨g4, g5⟩ wj ⟨hbj, h4j, h5j, hnj⟩
              refine norm_ (a' := ?_) ?_ ?_
              rotate_left
              · show putAll _ _ = _
                simp only [putAll, Act.put, List.setIfInBounds_toArray, List.set_cons_zero, List.set_cons_succ]
                rfl
              have HBB := Aside0.mk hbj
              have hHeld := hbj
              have HZ4 := Aside0.mk h4j.1
              have HG4 := Aside0.mk h4j.2
              clear hbj h4j h5j hnj
              refine two_ (i := 3) (j := 5) (Ni := (some 10)) (Nj := (some 6)) #[true, true, true, true, true, false, false, false] #[true, true, true, false, true, true, false, false] rfl rfl rfl rfl (two_of HT_.out (by kernel_rfl)) (by decide) (by decide) (fun K hK => ?_) (fun K hK => ?_)
              · skip
                refine goes_ Try.func86 (by kernel_rfl) rfl #[.agg #[.bool n2, .slice A2 k2 c2]] (by rfl) rfl rfl (by (try simp only [List.map_toArray, List.map_cons, List.map_nil]); first | done | rfl) ?_
                refine (H2.out _ HBB.out).mono ?_
                rintro e wn ⟨rfl, hb⟩
                refine ⟨_, rfl, ?_⟩
                have HZ4 := Aside0.mk (HZ4.out.below hb)
                have n0_ := Aside0.mk (below_step HBB.out hb)
                clear HBB hHeld hb
                have HBB := n0_
                clear n0_
                refine hK.out _ _ HBB.out (fun hHeld => ?_)
                clear hK K
                refine norm_ (a' := ?_) ?_ ?_
                rotate_left
                · show Act.put _ (some 10) _ = _
                  simp only [Act.put, List.setIfInBounds_toArray, List.set_cons_zero, List.set_cons_succ, i64_w, i32_w]
                  rfl
                have hj := hJ134 (g4, 0) _ ⟨HBB.out, ⟨HZ4.out, HG4.out⟩, trivial, trivial⟩
                refine norm_ ?_ hj
                rfl
              · skip
                refine box_step ?hg (N := 6) ?hd (cs := #[.bool false, .slice none 0 0]) (t := 41) ?hr ?_; (case hd => rfl); (case hg => rfl); (case hr => first | (go_simp; done) | (go_simp; rfl))
                intro g5 hg wn hbox hb
                have HNE := Aside0.mk (show g4 ≠ g5 from fun e => by have := blk_lt HZ4.out; omega)
                have HZ4 := Aside0.mk (HZ4.out.below hb)
                have n0_ := Aside0.mk (below_step HBB.out hb)
                have HBOX := Aside0.mk hbox
                have HGE := Aside0.mk (show Y.heap.size ≤ g5 by rw [hg]; exact HBB.out.size)
                clear HBB hHeld hb hbox hg
                have HBB := n0_
                clear n0_
                refine hK.out _ _ HBB.out (fun hHeld => ?_)
                clear hK K
                refine norm_ (a' := ?_) ?_ ?_
                rotate_left
                · show Act.put _ (some 6) _ = _
                  simp only [Act.put, List.setIfInBounds_toArray, List.set_cons_zero, List.set_cons_succ, i64_w, i32_w]
                  rfl
                have HZ5 := Aside0.mk (show Ze _ g5 from HBOX.out)
                have HG5 := HGE
                clear HBOX HGE
                have hj := hJ145 (g4, g5) _ ⟨HBB.out, ⟨HZ4.out, HG4.out⟩, ⟨HZ5.out, HG5.out⟩, HNE.out⟩
                refine norm_ ?_ hj
                rfl
          · skip
            rintro ⟨g4, g5⟩ wj ⟨hbj, h4j, h5j, hnj⟩
            refine norm_ (a' := ?_) ?_ ?_
            rotate_left
            · show putAll _ _ = _
              simp only [putAll, Act.put, List.setIfInBounds_toArray, List.set_cons_zero, List.set_cons_succ]
              rfl
            have HBB := Aside0.mk hbj
            have hHeld := hbj
            clear hbj h4j h5j hnj
            refine two_ (i := 4) (j := 5) (Ni := (some 5)) (Nj := (some 6)) #[true, true, true, true, true, false, false, false] #[true, true, true, true, false, true, false, false] rfl rfl rfl rfl (two_of HT_.out (by kernel_rfl)) (by decide) (by decide) (fun K hK => ?_) (fun K hK => ?_)
            · skip
              refine box_step ?hg (N := 5) ?hd (cs := #[.bool false, .slice none 0 0]) (t := 41) ?hr ?_; (case hd => rfl); (case hg => rfl); (case hr => first | (go_simp; done) | (go_simp; rfl))
              intro g4 hg wn hbox hb
              have n0_ := Aside0.mk (below_step HBB.out hb)
              have HBOX := Aside0.mk hbox
              have HGE := Aside0.mk (show Y.heap.size ≤ g4 by rw [hg]; exact HBB.out.size)
              clear HBB hHeld hb hbox hg
              have HBB := n0_
              clear n0_
              refine hK.out _ _ HBB.out (fun hHeld => ?_)
              clear hK K
              refine norm_ (a' := ?_) ?_ ?_
              rotate_left
              · show Act.put _ (some 5) _ = _
                simp only [Act.put, List.setIfInBounds_toArray, List.set_cons_zero, List.set_cons_succ, i64_w, i32_w]
                rfl
              have HZ4 := Aside0.mk (show Ze _ g4 from HBOX.out)
              have HG4 := HGE
              clear HBOX HGE
              have hj := hJ134 (g4, 0) _ ⟨HBB.out, ⟨HZ4.out, HG4.out⟩, trivial, trivial⟩
              refine norm_ ?_ hj
              rfl
            · skip
              refine box_step ?hg (N := 6) ?hd (cs := #[.bool false, .slice none 0 0]) (t := 41) ?hr ?_; (case hd => rfl); (case hg => rfl); (case hr => first | (go_simp; done) | (go_simp; rfl))
              intro g5 hg wn hbox hb
              have n0_ := Aside0.mk (below_step HBB.out hb)
              have HBOX := Aside0.mk hbox
              have HGE := Aside0.mk (show Y.heap.size ≤ g5 by rw [hg]; exact HBB.out.size)
              clear HBB hHeld hb hbox hg
              have HBB := n0_
              clear n0_
              refine hK.out _ _ HBB.out (fun hHeld => ?_)
              clear hK K
              refine norm_ (a' := ?_) ?_ ?_
              rotate_left
              · show Act.put _ (some 6) _ = _
                simp only [Act.put, List.setIfInBounds_toArray, List.set_cons_zero, List.set_cons_succ, i64_w, i32_w]
                rfl
              have HZ5 := Aside0.mk (show Ze _ g5 from HBOX.out)
              have HG5 := HGE
              clear HBOX HGE
              have hj := hJ135 (0, g5) _ ⟨HBB.out, trivial, ⟨HZ5.out, HG5.out⟩, trivial⟩
              refine norm_ ?_ hj
              rfl
        · skip
          rintro ⟨g4, g5⟩ wj ⟨hbj, h4j, h5j, hnj⟩
          refine norm_ (a' := ?_) ?_ ?_
          rotate_left
          · show putAll _ _ = _
            simp only [putAll, Act.put, List.setIfInBounds_toArray, List.set_cons_zero, List.set_cons_succ]
            rfl
          have HBB := Aside0.mk hbj
          have hHeld := hbj
          have HZ4 := Aside0.mk h4j.1
          have HG4 := Aside0.mk h4j.2
          have HZ5 := Aside0.mk h5j.1
          have HG5 := Aside0.mk h5j.2
          have HNE := Aside0.mk hnj
          clear hbj h4j h5j hnj
          refine one_ (i := 3) (N := (some 10)) #[true, true, true, true, true, true, false, false] rfl rfl (one_of HT_.out (by kernel_rfl)) (by decide) (fun K hK => ?_)
          refine goes_ Try.func86 (by kernel_rfl) rfl #[.agg #[.bool n2, .slice A2 k2 c2]] (by rfl) rfl rfl (by (try simp only [List.map_toArray, List.map_cons, List.map_nil]); first | done | rfl) ?_
          refine (H2.out _ HBB.out).mono ?_
          rintro e wn ⟨rfl, hb⟩
          refine ⟨_, rfl, ?_⟩
          have HZ4 := Aside0.mk (HZ4.out.below hb)
          have HZ5 := Aside0.mk (HZ5.out.below hb)
          have n0_ := Aside0.mk (below_step HBB.out hb)
          clear HBB hHeld hb
          have HBB := n0_
          clear n0_
          refine hK.out _ _ HBB.out (fun hHeld => ?_)
          clear hK K
          refine norm_ (a' := ?_) ?_ ?_
          rotate_left
          · show Act.put _ (some 10) _ = _
            simp only [Act.put, List.setIfInBounds_toArray, List.set_cons_zero, List.set_cons_succ, i64_w, i32_w]
            rfl
          have hj := hJ1345 (g4, g5) _ ⟨HBB.out, ⟨HZ4.out, HG4.out⟩, ⟨HZ5.out, HG5.out⟩, HNE.out⟩
          refine norm_ ?_ hj
          rfl
      · skip
        rintro ⟨g4, g5⟩ wj ⟨hbj, h4j, h5j, hnj⟩
        refine norm_ (a' := ?_) ?_ ?_
        rotate_left
        · show putAll _ _ = _
          simp only [putAll, Act.put, List.setIfInBounds_toArray, List.set_cons_zero, List.set_cons_succ]
          rfl
        have HBB := Aside0.mk hbj
        have hHeld := hbj
        have HZ5 := Aside0.mk h5j.1
        have HG5 := Aside0.mk h5j.2
        clear hbj h4j h5j hnj
        refine one_ (i := 4) (N := (some 5)) #[true, true, true, true, true, true, false, false] rfl rfl (one_of HT_.out (by kernel_rfl)) (by decide) (fun K hK => ?_)
        refine box_step ?hg (N := 5) ?hd (cs := #[.bool false, .slice none 0 0]) (t := 41) ?hr ?_; (case hd => rfl); (case hg => rfl); (case hr => first | (go_simp; done) | (go_simp; rfl))
        intro g4 hg wn hbox hb
        have HNE := Aside0.mk (show g4 ≠ g5 from fun e => by have := blk_lt HZ5.out; omega)
        have HZ5 := Aside0.mk (HZ5.out.below hb)
        have n0_ := Aside0.mk (below_step HBB.out hb)
        have HBOX := Aside0.mk hbox
        have HGE := Aside0.mk (show Y.heap.size ≤ g4 by rw [hg]; exact HBB.out.size)
        clear HBB hHeld hb hbox hg
        have HBB := n0_
        clear n0_
        refine hK.out _ _ HBB.out (fun hHeld => ?_)
        clear hK K
        refine norm_ (a' := ?_) ?_ ?_
        rotate_left
        · show Act.put _ (some 5) _ = _
          simp only [Act.put, List.setIfInBounds_toArray, List.set_cons_zero, List.set_cons_succ, i64_w, i32_w]
          rfl
        have HZ4 := Aside0.mk (show Ze _ g4 from HBOX.out)
        have HG4 := HGE
        clear HBOX HGE
        have hj := hJ1345 (g4, g5) _ ⟨HBB.out, ⟨HZ4.out, HG4.out⟩, ⟨HZ5.out, HG5.out⟩, HNE.out⟩
        refine norm_ ?_ hj
        rfl
    · skip
      rintro ⟨g4, g5⟩ wj ⟨hbj, h4j, h5j, hnj⟩
      refine norm_ (a' := ?_) ?_ ?_
      rotate_left
      · show putAll _ _ = _
        simp only [putAll, Act.put, List.setIfInBounds_toArray, List.set_cons_zero, List.set_cons_succ]
        rfl
      have HBB := Aside0.mk hbj
      have hHeld := hbj
      have HZ4 := Aside0.mk h4j.1
      have HG4 := Aside0.mk h4j.2
      clear hbj h4j h5j hnj
      refine one_ (i := 5) (N := (some 6)) #[true, true, true, true, true, true, false, false] rfl rfl (one_of HT_.out (by kernel_rfl)) (by decide) (fun K hK => ?_)
      refine box_step ?hg (N := 6) ?hd (cs := #[.bool false, .slice none 0 0]) (t := 41) ?hr ?_; (case hd => rfl); (case hg => rfl); (case hr => first | (go_simp; done) | (go_simp; rfl))
      intro g5 hg wn hbox hb
      have HNE := Aside0.mk (show g4 ≠ g5 from fun e => by have := blk_lt HZ4.out; omega)
      have HZ4 := Aside0.mk (HZ4.out.below hb)
      have n0_ := Aside0.mk (below_step HBB.out hb)
      have HBOX := Aside0.mk hbox
      have HGE := Aside0.mk (show Y.heap.size ≤ g5 by rw [hg]; exact HBB.out.size)
      clear HBB hHeld hb hbox hg
      have HBB := n0_
      clear n0_
      refine hK.out _ _ HBB.out (fun hHeld => ?_)
      clear hK K
      refine norm_ (a' := ?_) ?_ ?_
      rotate_left
      · show Act.put _ (some 6) _ = _
        simp only [Act.put, List.setIfInBounds_toArray, List.set_cons_zero, List.set_cons_succ, i64_w, i32_w]
        rfl
      have HZ5 := Aside0.mk (show Ze _ g5 from HBOX.out)
      have HG5 := HGE
      clear HBOX HGE
      have hj := hJ1345 (g4, g5) _ ⟨HBB.out, ⟨HZ4.out, HG4.out⟩, ⟨HZ5.out, HG5.out⟩, HNE.out⟩
      refine norm_ ?_ hj
      rfl
  · skip
    rintro ⟨g4, g5⟩ wj ⟨hbj, h4j, h5j, hnj⟩
    refine norm_ (a' := ?_) ?_ ?_
    rotate_left
    · show putAll _ _ = _
      simp only [putAll, Act.put, List.setIfInBounds_toArray, List.set_cons_zero, List.set_cons_succ]
      rfl
    have HBB := Aside0.mk hbj
    have hHeld := hbj
    have HZ4 := Aside0.mk h4j.1
    have HG4 := Aside0.mk h4j.2
    have HZ5 := Aside0.mk h5j.1
    have HG5 := Aside0.mk h5j.2
    have HNE := Aside0.mk hnj
    clear hbj h4j h5j hnj
    refine one_ (i := 6) (N := none) #[true, true, true, true, true, true, true, false] rfl rfl (one_of HT_.out (by kernel_rfl)) (by decide) (fun K hK => ?_)
    obtain ⟨d0, d1, z0, z1⟩ := two_cells HZ4.out
    refine skip_ (w1 := ?_) (by rfl) rfl ?_ ?_
    rotate_left
    · go_simp
      rfl
    have hbs := below_set (below_set HBB.out HG4.out (j := 0) (v := .bool n1)) HG4.out (j := 1) (v := .slice A1 k1 c1)
    have hws := two_put (a' := .bool n1) (b' := .slice A1 k1 c1) HZ4.out
    have hz5 := two_far HZ5.out HNE.out (a := .bool n1) (b := .slice A1 k1 c1)
    refine hK.out _ _ hbs (fun hHeld => ?_)
    clear hK K d0 d1 z0 z1
    generalize (wj.setCell ⟨g4, 0, none⟩ (.bool n1)).setCell ⟨g4, 1, none⟩ (.slice A1 k1 c1) = wk at hbs hws hz5 hHeld ⊢
    have HX4 := Aside0.mk hws
    have HZ5 := Aside0.mk hz5
    have HBB := Aside0.mk hbs
    clear hws hz5 hbs
    refine one_ (i := 7) (N := none) #[true, true, true, true, true, true, true, true] rfl rfl (one_of HT_.out (by kernel_rfl)) (by decide) (fun K hK => ?_)
    obtain ⟨d0, d1, z0, z1⟩ := two_cells HZ5.out
    refine skip_ (w1 := ?_) (by rfl) rfl ?_ ?_
    rotate_left
    · go_simp
      rfl
    have hbs := below_set (below_set HBB.out HG5.out (j := 0) (v := .bool n2)) HG5.out (j := 1) (v := .slice A2 k2 c2)
    have hws := two_put (a' := .bool n2) (b' := .slice A2 k2 c2) HZ5.out
    have hx4 := two_far HX4.out (Ne.symm HNE.out) (a := .bool n2) (b := .slice A2 k2 c2)
    refine hK.out _ _ hbs (fun hHeld => ?_)
    clear hK K d0 d1 z0 z1
    refine done_ (done_of HT_.out (by kernel_rfl)) ?_
    exact HQ.out g4 g5 _ hbs HG4.out HG5.out hx4 hws
end Go.Proofs.YtlifdpfhepamfaaPair
namespace Go.Proofs.YtlifdpfhepamfaaOp
open Go.RowKit Go.Proofs.YtlifdpfhepamfaaW.PrintWords Go.Proofs.YtlifdpfhepamfaaW.PrintLast Go.Proofs.YtlifdpfhepamfaaW.PrintMore Go.Proofs.YtlifdpfhepamfaaMem Go.Proofs.YtlifdpfhepamfaaLeaf Go.Proofs.YtlifdpfhepamfaaBits Go.Proofs.Ytlifdpfhepamfaa.PHe Go.Proofs.YtlifdpfhepamfaaPair Go.Proofs
set_option linter.unusedVariables false
set_option linter.unusedSimpArgs false
abbrev CR (w : World) (A : Option Addr) (xs : List Int) : Prop := Kd.C (Kd.int .u32) w A xs.length xs
theorem blk_new1 (w : World) (o o1 : Obj) : ((w.alloc o).alloc o1).heap[w.heap.size]? = some o := by
  have := ((below_alloc (Below.refl (w.alloc o).heap.size (w.alloc o)) o1).block w.heap.size (by simp)).trans (heap_alloc_new w o)
  exact this
set_option maxHeartbeats 4000000 in
set_option maxRecDepth 100000 in
theorem is_ok (w : World) (neg : Bool) (A : Option Addr) (c : Nat) (xs : List Int) (hr : CR w A xs) (hc : xs.length ≤ c) (h : relictref02_Check.f neg xs = some true) :
    Calls Try.prog 86 #[.agg #[.bool neg, .slice A xs.length c]] w fun e w' => e = .returned (.agg #[.bool neg, .slice A xs.length c]) ∧ Below w.heap.size w w' := by
  have hu := Try.underlying41
  obtain ⟨n, hn⟩ : ∃ n, xs.length = n := ⟨_, rfl⟩
  obtain ⟨g, hg⟩ : ∃ g, w.heap.size = g := ⟨_, rfl⟩
  obtain ⟨g1, hg1⟩ : ∃ g1, g + 1 = g1 := ⟨_, rfl⟩
  obtain ⟨W0, hW0⟩ : ∃ W0, w.alloc (.cells #[.bool neg, .slice A n c] 41) = W0 := ⟨_, rfl⟩
  have hs0 : W0.heap.size = g1 := by rw [← hW0, ← hg1, ← hg]; exact Array.size_push _
  obtain ⟨W, hW⟩ : ∃ W, W0.alloc (.cells #[.bool false, .slice none 0 0] 41) = W := ⟨_, rfl⟩
  have h0 : NumAt W g neg A n c := by rw [← hW, ← hW0, ← hg]; exact blk_new1 _ _ _
  have h1 : Ze W g1 := by rw [← hW, ← hs0]; exact heap_alloc_new _ _
  have hb : Below w.heap.size w W := by rw [← hW, ← hW0]; exact below_alloc (below_alloc (Below.refl _ _) _) _
  have HC := Aside0.mk (relictref02_Check.calls neg A c xs true W (Kd.C_below hr hb) hc h)
  have HG := Aside0.mk (show w.heap.size ≤ g1 by omega)
  obtain ⟨c0, c1, f0, f1⟩ := two_cells h0
  have H1 := Aside0.mk h1
  have HB := Aside0.mk hb
  rw [hn] at HC ⊢
  clear hr hc h h0 h1 hb hn
  go_enter Try.func86, Try.ntmps86
  go_wp2_with fail
  refine HC.out.mono ?_
  rintro e w1 ⟨rfl, hb⟩
  have H1 := Aside0.mk (H1.out.below hb)
  have d0 := pw_cell_below hb c0
  have d1 := pw_cell_below hb c1
  obtain ⟨q0, q1, z0, z1⟩ := two_cells H1.out
  have HB := Aside0.mk (below_step HB.out hb)
  clear hb c0 c1 f0 f1 hW HC
  go_wp2_with fail
  refine bodyPost_ret (results_cell_row rfl _ _ g1 41 #[.bool neg, .slice A n c] (0, 0) _ rfl (two_put H1.out) Try.underlying41 rfl (by kernel_rfl)) rfl ?_
  exact ⟨rfl, below_set (below_set HB.out HG.out) HG.out⟩
theorem num_far {W : World} {b : Nat} {P : Nat → Prop} {v : Value} {xs : List Int} (h : Kd.R (Kd.int .u32) 102 W b P v xs) (g : Nat) (x y : Value) (hn : ∀ k, P k → k ≠ g) : Kd.R (Kd.int .u32) 102 ((W.setCell ⟨g, 0, none⟩ x).setCell ⟨g, 1, none⟩ y) b (fun _ => True) v xs :=
  Kd.R_mono (Kd.R_far (p := ⟨g, 1, none⟩) (Kd.R_far (p := ⟨g, 0, none⟩) h hn _) hn _) (fun _ _ => trivial)
theorem is_of {Y : World} {neg : Bool} {A : Option Addr} {c : Nat} {xs : List Int} (hr : CR Y A xs) (hc : xs.length ≤ c) (h : relictref02_Check.f neg xs = some true) : Is Y neg A xs.length c :=
  fun W hb => is_ok W neg A c xs (Kd.C_below hr hb) hc h
set_option maxHeartbeats 4000000 in
set_option maxRecDepth 100000 in
theorem neg_ok (k : Nat) (w : World) (neg : Bool) (A : Option Addr) (c : Nat) (xs : List Int) (r1 : Bool) (r2 : List Int) (r3 : Bool) (hr : CR w A xs) (hc : xs.length ≤ c) (h : relictref02_Check.f neg xs = some true) (hf : relictref02_made.f k (!neg) xs = some (r1, r2, r3)) :
    Calls Try.prog 41 #[.agg #[.bool neg, .slice A xs.length c]] w fun e w' => ∃ A' c', e = .returned (.agg #[.bool r1, .slice A' r2.length c']) ∧ Kd.R (Kd.int .u32) 102 w' w.heap.size (fun _ => True) (.slice A' r2.length c') r2 ∧ Below w.heap.size w w' := by
  have hu := Try.underlying41
  have HIS := Aside0.mk (is_of hr hc h)
  have HMD := Aside0.mk (fun W (hb : Below w.heap.size w W) => relictref02_made.calls k (!neg) A c xs r1 r2 r3 W (Kd.C_below hr hb) hc hf)
  obtain ⟨n, hn⟩ : ∃ n, xs.length = n := ⟨_, rfl⟩
  obtain ⟨g, hg⟩ : ∃ g, w.heap.size = g := ⟨_, rfl⟩
  obtain ⟨g1, hg1⟩ : ∃ g1, g + 1 = g1 := ⟨_, rfl⟩
  obtain ⟨W0, hW0⟩ : ∃ W0, w.alloc (.cells #[.bool neg, .slice A n c] 41) = W0 := ⟨_, rfl⟩
  have hs0 : W0.heap.size = g1 := by rw [← hW0, ← hg1, ← hg]; exact Array.size_push _
  obtain ⟨W, hW⟩ : ∃ W, W0.alloc (.cells #[.bool false, .slice none 0 0] 41) = W := ⟨_, rfl⟩
  have h0 : NumAt W g neg A n c := by rw [← hW, ← hW0, ← hg]; exact blk_new1 _ _ _
  have h1 : Ze W g1 := by rw [← hW, ← hs0]; exact heap_alloc_new _ _
  have hb : Below w.heap.size w W := by rw [← hW, ← hW0]; exact below_alloc (below_alloc (Below.refl _ _) _) _
  have HG := Aside0.mk (show w.heap.size ≤ g1 by omega)
  obtain ⟨c0, c1, f0, f1⟩ := two_cells h0
  have H1 := Aside0.mk h1
  have HB := Aside0.mk hb
  rw [hn] at HIS HMD ⊢
  clear hr hc h h0 h1 hb hn
  go_enter Try.func41, Try.ntmps41
  go_wp2_with fail
  refine (HIS.out _ HB.out).mono ?_
  rintro e w1 ⟨rfl, hb⟩
  have H1 := Aside0.mk (H1.out.below hb)
  have HB := Aside0.mk (below_step HB.out hb)
  clear hb c0 c1 f0 f1 hW HIS
  obtain ⟨g3, hg3⟩ : ∃ g3, w1.heap.size = g3 := ⟨_, rfl⟩
  obtain ⟨W3, hW3⟩ : ∃ W3, w1.alloc (.cells #[.bool false, .slice none 0 0] 41) = W3 := ⟨_, rfl⟩
  have h3 : Ze W3 g3 := by rw [← hW3, ← hg3]; exact heap_alloc_new _ _
  have hb3 : Below w1.heap.size w1 W3 := by rw [← hW3]; exact below_alloc (Below.refl _ _) _
  obtain ⟨c0, c1, f0, f1⟩ := two_cells h3
  have hm3 := two_put (a' := .bool neg) (b' := .slice A n c) h3
  have hbm : Below w1.heap.size w1 ((W3.setCell ⟨g3, 0, none⟩ (.bool neg)).setCell ⟨g3, 1, none⟩ (.slice A n c)) := below_set (below_set hb3 (by omega)) (by omega)
  obtain ⟨W4, hW4⟩ : ∃ W4, (W3.setCell ⟨g3, 0, none⟩ (.bool neg)).setCell ⟨g3, 1, none⟩ (.slice A n c) = W4 := ⟨_, rfl⟩
  rw [hW4] at hm3 hbm
  obtain ⟨d0, d1, e0, e1⟩ := two_cells hm3
  have H4 := Aside0.mk (H1.out.below hbm)
  have HB4 := Aside0.mk (below_step HB.out hbm)
  clear h3 hb3 hm3 hbm H1 HB
  go_wp2_with fail
  refine (HMD.out _ HB4.out).mono ?_
  rintro e w5 ⟨v, rfl, hR, hb⟩
  obtain ⟨A', c', rfl⟩ := Kd.R_slice hR
  have H5 := Aside0.mk (H4.out.below hb)
  have HB5 := Aside0.mk (below_step HB4.out hb)
  have HC5 := Aside0.mk (Kd.R_lower hR HB4.out.size)
  clear hR hb H4 HB4 HMD d0 d1 e0 e1 hW4 hW3 c0 c1 f0 f1
  obtain ⟨g6, hg6⟩ : ∃ g6, w5.heap.size = g6 := ⟨_, rfl⟩
  obtain ⟨W6, hW6⟩ : ∃ W6, w5.alloc (.cells #[.bool false, .slice none 0 0] 41) = W6 := ⟨_, rfl⟩
  have h6 : Ze W6 g6 := by rw [← hW6, ← hg6]; exact heap_alloc_new _ _
  have hb6 : Below w5.heap.size w5 W6 := by rw [← hW6]; exact below_alloc (Below.refl _ _) _
  obtain ⟨c0, c1, f0, f1⟩ := two_cells h6
  have hm6 := two_put (a' := .bool r1) (b' := .slice A' r2.length c') h6
  have hbm : Below w5.heap.size w5 ((W6.setCell ⟨g6, 0, none⟩ (.bool r1)).setCell ⟨g6, 1, none⟩ (.slice A' r2.length c')) := below_set (below_set hb6 (by omega)) (by omega)
  obtain ⟨W7, hW7⟩ : ∃ W7, (W6.setCell ⟨g6, 0, none⟩ (.bool r1)).setCell ⟨g6, 1, none⟩ (.slice A' r2.length c') = W7 := ⟨_, rfl⟩
  rw [hW7] at hm6 hbm
  obtain ⟨d0, d1, e0, e1⟩ := two_cells hm6
  have H7 := Aside0.mk (H5.out.below hbm)
  obtain ⟨q0, q1, z0, z1⟩ := two_cells H7.out
  have HB7 := Aside0.mk (below_step HB5.out hbm)
  have HC7 := Aside0.mk (Kd.R_below HC5.out hbm)
  clear h6 hb6 hm6 hbm H5 HB5 HC5
  go_wp2_with fail
  refine bodyPost_ret (results_cell_row rfl _ _ g1 41 #[.bool r1, .slice A' r2.length c'] (0, 0) _ rfl (two_put H7.out) Try.underlying41 rfl (by kernel_rfl)) rfl ?_
  have q := Kd.R_types HC7.out H7.out (by decide)
  exact ⟨_, _, rfl, num_far q g1 _ _ (fun _ hk => hk.2), below_set (below_set HB7.out HG.out) HG.out⟩
set_option maxHeartbeats 4000000 in
set_option maxRecDepth 100000 in
theorem cmp_ok (k : Nat) (w : World) (neg : Bool) (A1 A2 : Option Addr) (c1 c2 : Nat) (xs : List Int) (h1 : CR w A1 xs) (hc1 : xs.length ≤ c1) (h2 : CR w A2 xs) (hc2 : xs.length ≤ c2) (h : relictref02_Check.f neg xs = some true) (hf : relictref01_Cmp.f k xs xs = some 0) :
    Calls Try.prog 43 #[.agg #[.bool neg, .slice A1 xs.length c1], .agg #[.bool neg, .slice A2 xs.length c2]] w fun e w' => e = .returned (.int .i64 0) ∧ Below w.heap.size w w' := by
  have hu := Try.underlying41
  obtain ⟨n, hn⟩ : ∃ n, xs.length = n := ⟨_, rfl⟩
  obtain ⟨g, hg⟩ : ∃ g, w.heap.size = g := ⟨_, rfl⟩
  obtain ⟨g1, hg1⟩ : ∃ g1, g + 1 = g1 := ⟨_, rfl⟩
  obtain ⟨W0, hW0⟩ : ∃ W0, w.alloc (.cells #[.bool neg, .slice A1 n c1] 41) = W0 := ⟨_, rfl⟩
  have hs0 : W0.heap.size = g1 := by rw [← hW0, ← hg1, ← hg]; exact Array.size_push _
  obtain ⟨W, hW⟩ : ∃ W, W0.alloc (.cells #[.bool neg, .slice A2 n c2] 41) = W := ⟨_, rfl⟩
  have h0 : NumAt W g neg A1 n c1 := by rw [← hW, ← hW0, ← hg]; exact blk_new1 _ _ _
  have h1' : NumAt W g1 neg A2 n c2 := by rw [← hW, ← hs0]; exact heap_alloc_new _ _
  have hb : Below w.heap.size w W := by rw [← hW, ← hW0]; exact below_alloc (below_alloc (Below.refl _ _) _) _
  have HI1 := Aside0.mk (is_of (Kd.C_below h1 hb) hc1 h)
  have HI2 := Aside0.mk (is_of (Kd.C_below h2 hb) hc2 h)
  have HCM := Aside0.mk (fun W' (hb' : Below w.heap.size w W') => relictref01_Cmp.calls k A1 c1 xs A2 c2 xs 0 W' (Kd.C_below h1 hb') hc1 (Kd.C_below h2 hb') hc2 hf)
  have HCN := Aside0.mk (fun W' (hb' : Below w.heap.size w W') => relictref01_Cmp.calls k A2 c2 xs A1 c1 xs 0 W' (Kd.C_below h2 hb') hc2 (Kd.C_below h1 hb') hc1 hf)
  have H0 := Aside0.mk h0
  have H1 := Aside0.mk h1'
  have HB := Aside0.mk hb
  rw [hn] at HI1 HI2 HCM HCN ⊢
  clear h1 h2 hc1 hc2 h h0 h1' hb hn hf
  go_enter Try.func43, Try.ntmps43
  go_wp2_with fail
  refine regCmp (u2 := undef) (u3 := undef) (fun _ _ d _ _ h => by cases d <;> exact h) H0.out H1.out HI1.out HI2.out ?_
  intro ga gb W1 hb1 hga hgb ha hbb
  have HB1 := Aside0.mk (below_step HB.out hb1)
  obtain ⟨p0, p1, y0, y1⟩ := two_cells ha
  obtain ⟨q0, q1, z0, z1⟩ := two_cells hbb
  clear hb1 hga hgb ha hbb HI1 HI2 H0 H1 HB
  cases neg with
  | true =>
    go_wp2_with fail
    refine (HCN.out _ HB1.out).mono ?_
    rintro e w5 ⟨rfl, hb⟩
    have HB5 := Aside0.mk (below_step HB1.out hb)
    clear hb
    go_wp2_with fail
    go_ret
    exact ⟨rfl, HB5.out⟩
  | false =>
    go_wp2_with fail
    refine (HCM.out _ HB1.out).mono ?_
    rintro e w5 ⟨rfl, hb⟩
    have HB5 := Aside0.mk (below_step HB1.out hb)
    clear hb
    go_wp2_with fail
    go_ret
    exact ⟨rfl, HB5.out⟩
abbrev RR (W : World) (b : Nat) (A : Option Addr) (c : Nat) (xs : List Int) : Prop := Kd.R (Kd.int .u32) 102 W b (fun _ => True) (.slice A xs.length c) xs
set_option maxHeartbeats 8000000 in
set_option maxRecDepth 100000 in
theorem op9_ok (k : Nat) (w0 w : World) (hB : Below w0.heap.size w0 w) (A1 : Option Addr) (c1 : Nat) (l1 : List Int) (A2 : Option Addr) (c2 : Nat) (l2 : List Int) (h1 : RR w w0.heap.size A1 c1 l1) (h2 : RR w w0.heap.size A2 c2 l2)
    (hne : ∀ q, some q = (Value.slice A1 l1.length c1).ownBlock → ¬ some q = (Value.slice A2 l2.length c2).ownBlock) (hk1 : relictref02_Check.f false l1 = some true) (hk2 : relictref02_Check.f false l2 = some true) (n : Int) (hn : 0 ≤ n)
    (hfar : relictref02_far.f k false l2 = some n) (r1 : Bool) (r2 : List Int) (r3 : Bool) (hsh : relictref02_shift.f k false l1 n true = some (r1, r2, r3)) :
    Calls Try.prog 39 #[.int .i64 9, .agg #[.bool false, .slice A1 l1.length c1], .agg #[.bool false, .slice A2 l2.length c2]] w fun e w' => ∃ A' c', e = .returned (.tuple #[.agg #[.bool r1, .slice A' r2.length c'], .bool r3]) ∧ RR w' w0.heap.size A' c' r2 ∧ Below w0.heap.size w0 w' := by
  have hu := Try.underlying41
  obtain ⟨g, hg⟩ : ∃ g, w.heap.size = g := ⟨_, rfl⟩
  obtain ⟨g1, hg1⟩ : ∃ g1, g + 1 = g1 := ⟨_, rfl⟩
  obtain ⟨g2, hg2⟩ : ∃ g2, g1 + 1 = g2 := ⟨_, rfl⟩
  obtain ⟨V0, hV0⟩ : ∃ V0, w.alloc (.cells #[.bool false, .slice A1 l1.length c1] 41) = V0 := ⟨_, rfl⟩
  have hs0 : V0.heap.size = g1 := by rw [← hV0, ← hg1, ← hg]; exact Array.size_push _
  obtain ⟨V1, hV1⟩ : ∃ V1, V0.alloc (.cells #[.bool false, .slice A2 l2.length c2] 41) = V1 := ⟨_, rfl⟩
  have hs1 : V1.heap.size = g2 := by rw [← hV1, ← hg2, ← hs0]; exact Array.size_push _
  obtain ⟨W, hW⟩ : ∃ W, V1.alloc (.cells #[.bool false, .slice none 0 0] 41) = W := ⟨_, rfl⟩
  have h4 : NumAt W g false A1 l1.length c1 := by
    have q : V1.heap[g]? = some (.cells #[.bool false, .slice A1 l1.length c1] 41 (0, 0)) := by rw [← hV1, ← hV0, ← hg]; exact blk_new1 _ _ _
    rw [← hW]; exact ((below_alloc (Below.refl V1.heap.size V1) _).block _ (blk_lt q)).trans q
  have h5 : NumAt W g1 false A2 l2.length c2 := by rw [← hW, ← hV1, ← hs0]; exact blk_new1 _ _ _
  have h6 : Ze W g2 := by rw [← hW, ← hs1]; exact heap_alloc_new _ _
  have hb : Below w.heap.size w W := by rw [← hW, ← hV1, ← hV0]; exact below_alloc (below_alloc (below_alloc (Below.refl _ _) _) _) _
  have q1 := Kd.R_below h1 hb
  have q2 := Kd.R_below h2 hb
  have HI1 := Aside0.mk (is_of (Kd.R_reads' q1).2.2 (Kd.R_reads' q1).2.1 hk1)
  have HI2 := Aside0.mk (is_of (Kd.R_reads' q2).2.2 (Kd.R_reads' q2).2.1 hk2)
  have HQ1 := Aside0.mk q1
  have HQ2 := Aside0.mk q2
  have HNE := Aside0.mk hne
  have H4 := Aside0.mk h4
  have H5 := Aside0.mk h5
  have H6 := Aside0.mk h6
  have HB := Aside0.mk (below_step hB hb)
  have HG := Aside0.mk (show w0.heap.size ≤ g2 by have := hB.size; omega)
  clear h1 h2 hne hk1 hk2 h4 h5 h6 q1 q2 hb hB
  go_enter Try.func39, Try.ntmps39
  go_wp2_with fail
  refine regOp (u4 := undef) (u5 := undef) (fun _ _ d _ _ h => by cases d <;> exact h) H4.out H5.out HI1.out HI2.out ?_
  intro ga gb W1 hb1 hga hgb ha hbb
  have HB1 := Aside0.mk (below_step HB.out hb1)
  have HQ1 := Aside0.mk (Kd.R_below HQ1.out hb1)
  have HQ2 := Aside0.mk (Kd.R_below HQ2.out hb1)
  have H6 := Aside0.mk (H6.out.below hb1)
  obtain ⟨p0, p1, y0, y1⟩ := two_cells ha
  obtain ⟨q0, q1, z0, z1⟩ := two_cells hbb
  have HA := Aside0.mk ha
  have HF := Aside0.mk (relictref02_far.calls k false _ (.slice A2 l2.length c2) l2 n w0 W1 HB1.out (Kd.R_tight rfl HQ2.out) hfar)
  clear hb1 hga hgb ha hbb HI1 HI2 H4 H5 HB hfar hW hV1 hV0
  go_wp2_with fail
  refine HF.out.mono ?_
  rintro e w2 ⟨rfl, hb2, hk2⟩
  have HB2 := Aside0.mk hb2
  have ha2 : NumAt w2 ga false A1 l1.length c1 := blk_kept HA.out hk2 (fun h => Kd.R_ne HQ2.out HA.out (by decide) h)
  have h62 : Ze w2 g2 := blk_kept H6.out hk2 (fun h => Kd.R_ne HQ2.out H6.out (by decide) h)
  have HR2 := Aside0.mk (Kd.R_keptB (Kd.R_tight rfl HQ1.out) hk2 (fun q hq hs => HNE.out q hq hs))
  obtain ⟨p0, p1, y0, y1⟩ := two_cells ha2
  have H62 := Aside0.mk h62
  have HS := Aside0.mk (relictref02_shift.calls k false _ (.slice A1 l1.length c1) l1 n true r1 r2 r3 w0 w2 hb2 (Kd.R_tight rfl HR2.out) hsh)
  clear HQ1 HQ2 H6 HA HF hb2 hk2 ha2 h62 q0 q1 z0 z1
  have hn0 : ¬ n < 0 := by omega
  go_wp2_with fail
  refine HS.out.mono ?_
  rintro e w3 ⟨v, rfl, hR, hb3, hk3⟩
  obtain ⟨A', c', rfl⟩ := Kd.R_slice hR
  have h63 : Ze w3 g2 := blk_kept H62.out hk3 (fun h => Kd.R_ne HR2.out H62.out (by decide) h)
  have HR3 := Aside0.mk hR
  have HB3 := Aside0.mk hb3
  have H63 := Aside0.mk h63
  obtain ⟨d0, d1, e0, e1⟩ := two_cells h63
  clear hR hb3 hk3 h63 HS HR2 H62
  go_wp2_with fail
  refine bodyPost_ret (results_ct rfl _ _ g2 41 #[.bool r1, .slice A' r2.length c'] (0, 0) _ rfl (two_put H63.out) Try.underlying41 rfl (by kernel_rfl)) rfl ?_
  exact ⟨_, _, rfl, num_far (Kd.R_types HR3.out H63.out (by decide)) g2 _ _ (fun _ hk => hk.2), below_set (below_set HB3.out HG.out) HG.out⟩
end Go.Proofs.YtlifdpfhepamfaaOp
namespace Go.Proofs.YtlifdpfhepamfaaOp2
open Go.RowKit Go.Proofs.YtlifdpfhepamfaaW.PrintWords Go.Proofs.YtlifdpfhepamfaaW.PrintLast Go.Proofs.YtlifdpfhepamfaaW.PrintMore Go.Proofs.YtlifdpfhepamfaaMem Go.Proofs.YtlifdpfhepamfaaLeaf Go.Proofs.YtlifdpfhepamfaaBits Go.Proofs.Ytlifdpfhepamfaa.PHe Go.Proofs.YtlifdpfhepamfaaPair Go.Proofs.YtlifdpfhepamfaaOp Go.Proofs
set_option linter.unusedVariables false
set_option linter.unusedSimpArgs false
def T6 : Bool × List (List Nat × List Nat) := (true, [([], []), ([], []), ([1], [1]), ([0, 2, 2], [0, 2]), ([3], [3]), ([3], [3]), ([4, 3, 0, 1, 2, 3, 4, 5], [4]), ([5, 6, 0, 1, 2, 3, 4, 5, 6], [5])])
def B6 : List Nat := [0, 0, 2, 7, 15, 15, 63, 127]
def O6 : Array Oper := #[{ dst := some 27, op := Op.load 41 (Operand.tmp 8), type := 41, pos := "ref.go:181", after := #[], guard := none }, { dst := some 28, op := Op.load 41 (Operand.tmp 9), type := 41, pos := "ref.go:181", after := #[], guard := none }, { dst := some 29, op := Op.call { callee := Callee.value (Operand.func 41), args := #[Operand.tmp 28], argTypes := #[41] }, type := 41, pos := "ref.go:181", after := #[{ on := 1, ground := Ground.data }], guard := none }, { dst := some 30, op := Op.call { callee := Callee.value (Operand.func 87), args := #[Operand.tmp 27, Operand.tmp 29], argTypes := #[41, 41] }, type := 66, pos := "ref.go:181", after := #[{ on := 0, ground := Ground.data }, { on := 2, ground := Ground.data }, { on := 2, ground := Ground.chain }], guard := none }, { dst := some 31, op := Op.extract (Operand.tmp 30) 0, type := 41, pos := "ref.go:181", after := #[{ on := 3, ground := Ground.data }], guard := none }, { dst := some 32, op := Op.extract (Operand.tmp 30) 1, type := 4, pos := "ref.go:181", after := #[{ on := 3, ground := Ground.data }], guard := none }, { dst := none, op := Op.store 41 (Operand.tmp 6) (Operand.tmp 31), type := 0, pos := "ref.go:181", after := #[{ on := 4, ground := Ground.data }, { on := 3, ground := Ground.chain }, { on := 0, ground := Ground.phase }, { on := 1, ground := Ground.phase }, { on := 2, ground := Ground.phase }, { on := 3, ground := Ground.phase }, { on := 4, ground := Ground.phase }, { on := 5, ground := Ground.phase }], guard := none }, { dst := some 7, op := Op.assign (Operand.tmp 32), type := 4, pos := "ref.go:181", after := #[{ on := 5, ground := Ground.data }, { on := 6, ground := Ground.chain }, { on := 0, ground := Ground.phase }, { on := 1, ground := Ground.phase }, { on := 2, ground := Ground.phase }, { on := 3, ground := Ground.phase }, { on := 4, ground := Ground.phase }, { on := 5, ground := Ground.phase }, { on := 6, ground := Ground.phase }], guard := none }]
theorem tab6 : rtab .any O6 = T6 := by kernel_rfl
theorem bits6 : waitsOk T6.2 B6 = true := by kernel_rfl
set_option maxHeartbeats 16000000 in
set_option maxRecDepth 100000 in
theorem reg6 {u0 u1 u2 u3 u4 u5 u6 u7 u8 u9 u10 u11 u12 u13 u14 u15 u16 u17 u18 u19 u20 u21 u22 u23 u24 u25 u26 u27 u28 u29 u30 u31 u32 u33 u34 u35 u36 u37 u38 u39 u40 u41 u42 u43 u44 u45 u46 u47 u48 u49 u50 u51 u52 u53 u54 u55 u56 u57 u58 u59 u60 u61 u62 u63 u64 u65 u66 u67 u68 u69 u70 u71 u72 u73 u74 u75 u76 u77 u78 u79 u80 u81 u82 u83 u84 u85 u86 u87 u88 u89 u90 u91 u92 u93 u94 u95 u96 u97 u98 u99 u100 u101 u102 u103 u104 u105 u106 u107 u108 u109 u110 u111 u112 u113 : Value} {Q : Exit → Act → World → Prop} (hP : ∀ c (a : Act) d v w, Q (.panic c) (a.put d v) w → Q (.panic c) a w) {Y : World} {ga gb g2 : Nat} {n1 n2 b1 r1 r3 : Bool} {A1 A2 : Option Addr} {c1 c2 : Nat} {l1 l2 b2 r2 : List Int} (hx : NumAt Y ga n1 A1 l1.length c1) (hy : NumAt Y gb n2 A2 l2.length c2) (hz : Ze Y g2)
    (hneg : ∀ W, Below Y.heap.size Y W → Calls Try.prog 41 #[.agg #[.bool n2, .slice A2 l2.length c2]] W fun e w' => ∃ A' c', e = .returned (.agg #[.bool b1, .slice A' b2.length c']) ∧ RR w' W.heap.size A' c' b2 ∧ Below W.heap.size W w')
    (hadd : ∀ W A3 c3, Below Y.heap.size Y W → CR W A3 b2 → b2.length ≤ c3 → Calls Try.prog 87 #[.agg #[.bool n1, .slice A1 l1.length c1], .agg #[.bool b1, .slice A3 b2.length c3]] W fun e w' => ∃ v1_ : Value, e = .returned (.tuple #[.agg #[.bool r1, v1_], .bool r3]) ∧ Kd.R (Kd.int .u32) 102 w' W.heap.size (fun _ => True) v1_ r2 ∧ Below W.heap.size W w')
    (hQ : ∀ A3 c3 A4 c4 W1, Below Y.heap.size Y W1 → RR W1 Y.heap.size A4 c4 r2 → Q .normal ⟨#[u0, u1, u2, u3, u4, u5, .pointer (some ⟨g2, 0, none⟩), .bool r3, .pointer (some ⟨ga, 0, none⟩), .pointer (some ⟨gb, 0, none⟩), u10, u11, u12, u13, u14, u15, u16, u17, u18, u19, u20, u21, u22, u23, u24, u25, u26, .agg #[.bool n1, .slice A1 l1.length c1], .agg #[.bool n2, .slice A2 l2.length c2], .agg #[.bool b1, .slice A3 b2.length c3], .tuple #[.agg #[.bool r1, .slice A4 r2.length c4], .bool r3], .agg #[.bool r1, .slice A4 r2.length c4], .bool r3, u33, u34, u35, u36, u37, u38, u39, u40, u41, u42, u43, u44, u45, u46, u47, u48, u49, u50, u51, u52, u53, u54, u55, u56, u57, u58, u59, u60, u61, u62, u63, u64, u65, u66, u67, u68, u69, u70, u71, u72, u73, u74, u75, u76, u77, u78, u79, u80, u81, u82, u83, u84, u85, u86, u87, u88, u89, u90, u91, u92, u93, u94, u95, u96, u97, u98, u99, u100, u101, u102, u103, u104, u105, u106, u107, u108, u109, u110, u111, u112, u113], []⟩ ((W1.setCell ⟨g2, 0, none⟩ (.bool r1)).setCell ⟨g2, 1, none⟩ (.slice A4 r2.length c4))) :
    (Code.region 6 O6 true).wp Try.prog Q ⟨#[u0, u1, u2, u3, u4, u5, .pointer (some ⟨g2, 0, none⟩), u7, .pointer (some ⟨ga, 0, none⟩), .pointer (some ⟨gb, 0, none⟩), u10, u11, u12, u13, u14, u15, u16, u17, u18, u19, u20, u21, u22, u23, u24, u25, u26, u27, u28, u29, u30, u31, u32, u33, u34, u35, u36, u37, u38, u39, u40, u41, u42, u43, u44, u45, u46, u47, u48, u49, u50, u51, u52, u53, u54, u55, u56, u57, u58, u59, u60, u61, u62, u63, u64, u65, u66, u67, u68, u69, u70, u71, u72, u73, u74, u75, u76, u77, u78, u79, u80, u81, u82, u83, u84, u85, u86, u87, u88, u89, u90, u91, u92, u93, u94, u95, u96, u97, u98, u99, u100, u101, u102, u103, u104, u105, u106, u107, u108, u109, u110, u111, u112, u113], []⟩ Y := by
  unfold O6
  have hu := Try.underlying41
  have HX := Aside0.mk hx
  have HY := Aside0.mk hy
  have HZ := Aside0.mk hz
  have HNG := Aside0.mk hneg
  have HAD := Aside0.mk hadd
  have HQ := Aside0.mk hQ
  have HP := Aside0.mk hP
  clear hx hy hz hneg hadd hQ hP
  have HBB := Aside0.mk (below_drew (Below.refl Y.heap.size Y))
  refine start_ (n := 8) (S := fun w' => Below Y.heap.size Y w') (ds := [6]) #[false, false, false, false, false, false, false, false] (by kernel_rfl) rfl rfl HBB.out (fun hHeld => ?_); refine with_tabW tab6 bits6 (fun HT_ HW_ => ?_)
  generalize Y.drew = wd at HBB hHeld ⊢
  refine take_ (i := 0) (N := (some 27)) (v := (.agg #[.bool n1, .slice A1 l1.length c1])) (a' := ?_) #[true, false, false, false, false, false, false, false] rfl rfl (take_ofW HT_.out HW_.out (by kernel_rfl)) (fun _ _ _ h => HP.out _ _ _ _ _ h) (Or.inl ⟨by rfl, ?_⟩) hHeld ?_ ?_
  · (intro w' hs; obtain ⟨d0, d1, _, _⟩ := two_cells ((hs.block _ (blk_lt HX.out)).trans HX.out); go_simp)
  rotate_left; (simp only [Act.put, List.setIfInBounds_toArray, List.set_cons_zero, List.set_cons_succ, i64_w, i32_w]; rfl)
  refine take_ (i := 1) (N := (some 28)) (v := (.agg #[.bool n2, .slice A2 l2.length c2])) (a' := ?_) #[true, true, false, false, false, false, false, false] rfl rfl (take_ofW HT_.out HW_.out (by kernel_rfl)) (fun _ _ _ h => HP.out _ _ _ _ _ h) (Or.inl ⟨by rfl, ?_⟩) hHeld ?_ ?_
  · (intro w' hs; obtain ⟨d0, d1, _, _⟩ := two_cells ((hs.block _ (blk_lt HY.out)).trans HY.out); go_simp)
  rotate_left; (simp only [Act.put, List.setIfInBounds_toArray, List.set_cons_zero, List.set_cons_succ, i64_w, i32_w]; rfl)
  refine one_ (i := 2) (N := (some 29)) #[true, true, true, false, false, false, false, false] rfl rfl (one_of HT_.out (by kernel_rfl)) (by decide) (fun K hK => ?_)
  refine goes_ Try.func41 (by kernel_rfl) rfl #[.agg #[.bool n2, .slice A2 l2.length c2]] (by rfl) rfl rfl (by (try simp only [List.map_toArray, List.map_cons, List.map_nil]); first | done | rfl) ?_
  refine (HNG.out _ HBB.out).mono ?_
  rintro e wn ⟨A3, c3, rfl, hR, hb⟩
  refine ⟨_, rfl, ?_⟩
  have HN3 := Aside0.mk (And.intro (Kd.R_reads' hR).2.2 (Kd.R_reads' hR).2.1)
  clear hR
  have n0_ := Aside0.mk (below_step HBB.out hb)
  clear HBB hHeld hb
  have HBB := n0_
  clear n0_
  refine hK.out _ _ HBB.out (fun hHeld => ?_)
  clear hK K
  refine norm_ (a' := ?_) ?_ ?_
  rotate_left
  · show Act.put _ (some 29) _ = _
    simp only [Act.put, List.setIfInBounds_toArray, List.set_cons_zero, List.set_cons_succ, i64_w, i32_w]
    rfl
  refine one_ (i := 3) (N := (some 30)) #[true, true, true, true, false, false, false, false] rfl rfl (one_of HT_.out (by kernel_rfl)) (by decide) (fun K hK => ?_)
  refine goes_ Try.func87 (by kernel_rfl) rfl #[.agg #[.bool n1, .slice A1 l1.length c1], .agg #[.bool b1, .slice A3 b2.length c3]] (by rfl) rfl rfl (by (try simp only [List.map_toArray, List.map_cons, List.map_nil]); first | done | rfl) ?_
  refine (HAD.out _ A3 c3 HBB.out HN3.out.1 HN3.out.2).mono ?_
  rintro e wm ⟨v4, rfl, hR, hb⟩
  refine ⟨_, rfl, ?_⟩
  obtain ⟨A4, c4, rfl⟩ := Kd.R_slice hR
  have HR4 := Aside0.mk (Kd.R_lower hR HBB.out.size)
  clear hR
  have n0_ := Aside0.mk (below_step HBB.out hb)
  clear HBB hHeld hb
  have HBB := n0_
  clear n0_
  refine hK.out _ _ HBB.out (fun hHeld => ?_)
  clear hK K
  refine norm_ (a' := ?_) ?_ ?_
  rotate_left
  · show Act.put _ (some 30) _ = _
    simp only [Act.put, List.setIfInBounds_toArray, List.set_cons_zero, List.set_cons_succ, i64_w, i32_w]
    rfl
  refine pure_ (i := 4) (N := (some 31)) (v := ?_) (a' := ?_) #[true, true, true, true, true, false, false, false] rfl rfl (any_of HT_.out (by kernel_rfl)) (fun _ _ _ h => HP.out _ _ _ _ _ h) (Or.inl ⟨by rfl, ?_⟩) ?_ ?_
  rotate_left; (intro w'; go_simp; with_reducible rfl)
  rotate_left; (simp only [Act.put, List.setIfInBounds_toArray, List.set_cons_zero, List.set_cons_succ, i64_w, i32_w]; rfl)
  refine pure_ (i := 5) (N := (some 32)) (v := ?_) (a' := ?_) #[true, true, true, true, true, true, false, false] rfl rfl (any_of HT_.out (by kernel_rfl)) (fun _ _ _ h => HP.out _ _ _ _ _ h) (Or.inl ⟨by rfl, ?_⟩) ?_ ?_
  rotate_left; (intro w'; go_simp; with_reducible rfl)
  rotate_left; (simp only [Act.put, List.setIfInBounds_toArray, List.set_cons_zero, List.set_cons_succ, i64_w, i32_w]; rfl)
  obtain ⟨d0, d1, z0, z1⟩ := two_cells ((HBB.out.block _ (blk_lt HZ.out)).trans HZ.out)
  refine last_ (i := 6) (N := none) #[true, true, true, true, true, true, true, false] rfl rfl (one_of HT_.out (by kernel_rfl)) (by decide) (fun K hK => ?_)
  refine skip_ (w1 := ?_) (by rfl) rfl ?_ ?_
  rotate_left
  · go_simp
    rfl
  refine hK.out _ _ ?_
  clear hK K
  refine pure_ (i := 7) (N := (some 7)) (v := ?_) (a' := ?_) #[true, true, true, true, true, true, true, true] rfl rfl (any_of HT_.out (by kernel_rfl)) (fun _ _ _ h => HP.out _ _ _ _ _ h) (Or.inl ⟨by rfl, ?_⟩) ?_ ?_
  rotate_left; (intro w'; go_simp; with_reducible rfl)
  rotate_left; (simp only [Act.put, List.setIfInBounds_toArray, List.set_cons_zero, List.set_cons_succ, i64_w, i32_w]; rfl)
  refine done_ (done_of HT_.out (by kernel_rfl)) ?_
  exact HQ.out A3 c3 A4 c4 _ HBB.out HR4.out
set_option maxHeartbeats 8000000 in
set_option maxRecDepth 100000 in
theorem op2_ok (k : Nat) (w : World) (n1 n2 : Bool) (A1 : Option Addr) (c1 : Nat) (l1 : List Int) (A2 : Option Addr) (c2 : Nat) (l2 : List Int) (h1 : CR w A1 l1) (hc1 : l1.length ≤ c1) (h2 : CR w A2 l2) (hc2 : l2.length ≤ c2)
    (hk1 : relictref02_Check.f n1 l1 = some true) (hk2 : relictref02_Check.f n2 l2 = some true) (b1 : Bool) (b2 : List Int) (b3 : Bool) (hmd : relictref02_made.f k (!n2) l2 = some (b1, b2, b3)) (r1 : Bool) (r2 : List Int) (r3 : Bool) (hadd : relictref02_add.f k n1 l1 b1 b2 = some (r1, r2, r3)) :
    Calls Try.prog 39 #[.int .i64 2, .agg #[.bool n1, .slice A1 l1.length c1], .agg #[.bool n2, .slice A2 l2.length c2]] w fun e w' => ∃ A' c', e = .returned (.tuple #[.agg #[.bool r1, .slice A' r2.length c'], .bool r3]) ∧ RR w' w.heap.size A' c' r2 ∧ Below w.heap.size w w' := by
  have hu := Try.underlying41
  obtain ⟨g, hg⟩ : ∃ g, w.heap.size = g := ⟨_, rfl⟩
  obtain ⟨g1, hg1⟩ : ∃ g1, g + 1 = g1 := ⟨_, rfl⟩
  obtain ⟨g2, hg2⟩ : ∃ g2, g1 + 1 = g2 := ⟨_, rfl⟩
  obtain ⟨V0, hV0⟩ : ∃ V0, w.alloc (.cells #[.bool n1, .slice A1 l1.length c1] 41) = V0 := ⟨_, rfl⟩
  have hs0 : V0.heap.size = g1 := by rw [← hV0, ← hg1, ← hg]; exact Array.size_push _
  obtain ⟨V1, hV1⟩ : ∃ V1, V0.alloc (.cells #[.bool n2, .slice A2 l2.length c2] 41) = V1 := ⟨_, rfl⟩
  have hs1 : V1.heap.size = g2 := by rw [← hV1, ← hg2, ← hs0]; exact Array.size_push _
  obtain ⟨W, hW⟩ : ∃ W, V1.alloc (.cells #[.bool false, .slice none 0 0] 41) = W := ⟨_, rfl⟩
  have h4 : NumAt W g n1 A1 l1.length c1 := by
    have q : V1.heap[g]? = some (.cells #[.bool n1, .slice A1 l1.length c1] 41 (0, 0)) := by rw [← hV1, ← hV0, ← hg]; exact Go.Proofs.YtlifdpfhepamfaaMem.blk_new1 _ _ _
    rw [← hW]; exact ((below_alloc (Below.refl V1.heap.size V1) _).block _ (blk_lt q)).trans q
  have h5 : NumAt W g1 n2 A2 l2.length c2 := by rw [← hW, ← hV1, ← hs0]; exact Go.Proofs.YtlifdpfhepamfaaMem.blk_new1 _ _ _
  have h6 : Ze W g2 := by rw [← hW, ← hs1]; exact heap_alloc_new _ _
  have hb : Below w.heap.size w W := by rw [← hW, ← hV1, ← hV0]; exact below_alloc (below_alloc (below_alloc (Below.refl _ _) _) _) _
  have HI1 := Aside0.mk (is_of (Kd.C_below h1 hb) hc1 hk1)
  have HI2 := Aside0.mk (is_of (Kd.C_below h2 hb) hc2 hk2)
  have HNG := Aside0.mk (fun W' (hb' : Below w.heap.size w W') => neg_ok k W' n2 A2 c2 l2 b1 b2 b3 (Kd.C_below h2 hb') hc2 hk2 hmd)
  have HAD := Aside0.mk (fun W' A3 c3 (hb' : Below w.heap.size w W') (h3 : CR W' A3 b2) (hc3 : b2.length ≤ c3) => relictref02_add.calls k n1 A1 c1 l1 b1 A3 c3 b2 r1 r2 r3 W' (Kd.C_below h1 hb') hc1 h3 hc3 hadd)
  have H4 := Aside0.mk h4
  have H5 := Aside0.mk h5
  have H6 := Aside0.mk h6
  have HB := Aside0.mk hb
  have HG := Aside0.mk (show w.heap.size ≤ g2 by omega)
  clear h1 h2 hc1 hc2 hk1 hk2 hmd hadd h4 h5 h6 hb
  go_enter Try.func39, Try.ntmps39
  go_wp2_with fail
  refine regOp (u4 := undef) (u5 := undef) (fun _ _ d _ _ h => by cases d <;> exact h) H4.out H5.out HI1.out HI2.out ?_
  intro ga gb W1 hb1 hga hgb ha hbb
  have HB1 := Aside0.mk (below_step HB.out hb1)
  have H6 := Aside0.mk (H6.out.below hb1)
  have HA := Aside0.mk ha
  have HBB := Aside0.mk hbb
  clear hb1 hga hgb ha hbb HI1 HI2 H4 H5 HB hW hV1 hV0
  go_wp2_with fail
  refine reg6 (u6 := undef) (u8 := undef) (u9 := undef) (fun _ _ d _ _ h => by cases d <;> exact h) HA.out HBB.out H6.out (fun W' hb' => HNG.out W' (below_step HB1.out hb')) (fun W' A3 c3 hb' h3 hc3 => HAD.out W' A3 c3 (below_step HB1.out hb') h3 hc3) ?_
  intro A3 c3 A4 c4 W2 hb2 hR
  have H62 := H6.out.below hb2
  have H63 := Aside0.mk H62
  have HR2 := Aside0.mk (Kd.R_lower hR HB1.out.size)
  have HB2 := Aside0.mk (below_step HB1.out hb2)
  clear hb2 hR H62
  go_wp2_with fail
  refine bodyPost_ret (results_ct rfl _ _ g2 41 #[.bool r1, .slice A4 r2.length c4] (0, 0) _ rfl (two_put H63.out) Try.underlying41 rfl (by kernel_rfl)) rfl ?_
  exact ⟨_, _, rfl, num_far (Kd.R_types HR2.out H63.out (by decide)) g2 _ _ (fun _ hk => hk.2), below_set (below_set HB2.out HG.out) HG.out⟩
end Go.Proofs.YtlifdpfhepamfaaOp2
