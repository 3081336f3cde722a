/- Terms in the machine: a term that lies in a box. -/
import Derived.Test.YthdmacdeefohkaaPMa3
namespace Go.Proofs.YthdmacdeefohkaaMTerm
open Go.RowKit Go.Proofs.YthdmacdeefohkaaW.PrintWords Go.Proofs.YthdmacdeefohkaaW.PrintLast Go.Proofs.YthdmacdeefohkaaW.PrintMore Go.Proofs.YthdmacdeefohkaaMem Go.Proofs.YthdmacdeefohkaaLeaf Go.Proofs.YthdmacdeefohkaaBits Go.Proofs.Ythdmacdeefohkaa.PMa Go.Proofs
set_option linter.unusedVariables false
set_option linter.unusedSimpArgs false
/-- The term's cells. -/
def cellsT (x : S45) (A2 : Option Addr) (c2 : Nat) (A5 : Option Addr) (c5 : Nat) : Array Value := #[.int .i64 x.f0, .bool x.f1.f0, .slice A2 x.f1.f1.length c2, .string x.f2, .int .i64 x.f3, .slice A5 x.f4.length c5]
/-- What a term leads to, at a world. -/
def Lies (W : World) (x : S45) (A2 : Option Addr) (c2 : Nat) (A5 : Option Addr) (c5 : Nat) : Prop :=
  Kd.C (Kd.int .u32) W A2 x.f1.f1.length x.f1.f1 ∧ x.f1.f1.length ≤ c2 ∧ Kd.C k45 W A5 x.f4.length x.f4 ∧ x.f4.length ≤ c5
theorem Lies.below {W W' : World} {x : S45} {A2 : Option Addr} {c2 : Nat} {A5 : Option Addr} {c5 : Nat} (h : Lies W x A2 c2 A5 c5) (hb : Below W.heap.size W W') : Lies W' x A2 c2 A5 c5 :=
  ⟨Kd.C_below h.1 hb, h.2.1, Kd.C_below h.2.2.1 hb, h.2.2.2⟩
/-- .. in a box. -/
def Box (w0 W : World) (g : Nat) (x : S45) (A2 : Option Addr) (c2 : Nat) (A5 : Option Addr) (c5 : Nat) : Prop :=
  W.heap[g]? = some (.cells (cellsT x A2 c2 A5 c5) 45 (0, 0)) ∧ Lies W x A2 c2 A5 c5 ∧ Below w0.heap.size w0 W
theorem Box.below {w0 W W' : World} {g : Nat} {x : S45} {A2 : Option Addr} {c2 : Nat} {A5 : Option Addr} {c5 : Nat} (h : Box w0 W g x A2 c2 A5 c5) (hb : Below W.heap.size W W') : Box w0 W' g x A2 c2 A5 c5 :=
  ⟨(hb.block g (blk_lt h.1)).trans h.1, h.2.1.below hb, below_step h.2.2 hb⟩
theorem Box.cells {w0 W : World} {g : Nat} {x : S45} {A2 : Option Addr} {c2 : Nat} {A5 : Option Addr} {c5 : Nat} (h : Box w0 W g x A2 c2 A5 c5) :
    W.cell? ⟨g, 0, none⟩ = some (.int .i64 x.f0) ∧ W.cell? ⟨g, 1, none⟩ = some (.bool x.f1.f0) ∧ W.cell? ⟨g, 2, none⟩ = some (.slice A2 x.f1.f1.length c2) ∧ W.cell? ⟨g, 3, none⟩ = some (.string x.f2) ∧ W.cell? ⟨g, 4, none⟩ = some (.int .i64 x.f3) ∧ W.cell? ⟨g, 5, none⟩ = some (.slice A5 x.f4.length c5) := six_cells h.1
end Go.Proofs.YthdmacdeefohkaaMTerm
