/- Terms that are the same. -/
import Derived.Test.YthdmacdeefohkaaMTermA
import Derived.Test.YthdmacdeefohkaaPMa4
import Derived.Test.YthdmacdeefohkaaPMa5
namespace Go.Proofs.YthdmacdeefohkaaMVal
open Go.RowKit Go.Proofs.YthdmacdeefohkaaW.PrintWords Go.Proofs.YthdmacdeefohkaaW.PrintLast Go.Proofs.YthdmacdeefohkaaW.PrintMore Go.Proofs.YthdmacdeefohkaaMem Go.Proofs.YthdmacdeefohkaaLeaf Go.Proofs.YthdmacdeefohkaaBits Go.Proofs.Ythdmacdeefohkaa.PMa Go.Proofs.YthdmacdeefohkaaMTerm Go.Proofs
set_option linter.unusedVariables false
set_option linter.unusedSimpArgs false
theorem same_limbs (L : List Int) (hl : L.length ≤ 1000) : ∀ (d i k : Nat), i + d = L.length → d + 1 ≤ k → relictlaw00_SameLimbs.l0 k L L (i : Int) = some true := by
  intro d
  induction d with
  | zero =>
    intro i k hi hk
    obtain ⟨k, rfl⟩ : ∃ m, k = m + 1 := ⟨k - 1, by omega⟩
    simp only [relictlaw00_SameLimbs.l0]
    rw [if_neg (by omega)]
  | succ d ih =>
    intro i k hi hk
    obtain ⟨k, rfl⟩ : ∃ m, k = m + 1 := ⟨k - 1, by omega⟩
    simp only [relictlaw00_SameLimbs.l0]
    rw [if_pos (by omega), if_pos (by omega), if_pos (by omega), if_pos trivial, show wrap64 ((i : Int) + 1) = ((i + 1 : Nat) : Int) by unfold wrap64; omega]
    exact ih (i + 1) k (by omega) (by omega)
theorem same_num (b : Bool) (L : List Int) (hl : L.length ≤ 1000) (k : Nat) (hk : L.length + 1 ≤ k) : relictlaw00_SameNum.f k b L b L = some true := by
  unfold relictlaw00_SameNum.f relictlaw00_SameLimbs.f
  rw [if_pos (by simp), if_pos rfl]
  have := same_limbs L hl L.length 0 k (by omega) hk
  rw [show ((0 : Nat) : Int) = 0 from rfl] at this
  rw [this, bindS]
/-- I1. -/
theorem i1_tells (k : Nat) (v : Int) (h0 : 0 ≤ v) (h1 : v < 9223372036854775808) : relictlaw00_I1.f k v = some (1, false, limbs v, ⟨#[]⟩, 0, []) := by
  unfold relictlaw00_I1.f relictref19_Int.f relictref02_Of.f
  rw [if_pos h0, if_pos h1, bindS, bindS]
theorem lies_of {w : World} {B B' : Nat} {ok ok' : Nat → Prop} {a : Int} {b : Bool} {l2 : List Int} {s : ByteArray} {N : Int} {l5 : List S45} {A2 A5 : Option Addr} {c2 c5 : Nat}
    (h2 : Kd.R (Kd.int .u32) 123 w B ok (.slice A2 l2.length c2) l2) (h5 : Kd.R k45 45 w B' ok' (.slice A5 l5.length c5) l5) : Lies w ⟨a, ⟨b, l2⟩, s, N, l5⟩ A2 c2 A5 c5 :=
  ⟨(Kd.R_reads' h2).2.2, (Kd.R_reads' h2).2.1, (Kd.R_reads' h5).2.2, (Kd.R_reads' h5).2.1⟩
theorem box1 {w0 w : World} {x : S45} {A2 : Option Addr} {c2 : Nat} {A5 : Option Addr} {c5 : Nat} (hb : Below w0.heap.size w0 w) (hl : Lies w x A2 c2 A5 c5) : Box w0 (w.alloc (.cells (cellsT x A2 c2 A5 c5) 45)) w.heap.size x A2 c2 A5 c5 :=
  ⟨heap_alloc_new _ _, hl.below (below_alloc (Below.refl _ _) _), below_alloc hb _⟩
theorem box2 {w0 w : World} {x y : S45} {A2 : Option Addr} {c2 : Nat} {A5 : Option Addr} {c5 : Nat} {B2 : Option Addr} {d2 : Nat} {B5 : Option Addr} {d5 : Nat} (hb : Below w0.heap.size w0 w) (hl : Lies w x A2 c2 A5 c5) (hm : Lies w y B2 d2 B5 d5) :
    Box w0 ((w.alloc (.cells (cellsT x A2 c2 A5 c5) 45)).alloc (.cells (cellsT y B2 d2 B5 d5) 45)) w.heap.size x A2 c2 A5 c5 ∧ Box w0 ((w.alloc (.cells (cellsT x A2 c2 A5 c5) 45)).alloc (.cells (cellsT y B2 d2 B5 d5) 45)) (w.heap.size + 1) y B2 d2 B5 d5 := by
  refine ⟨(box1 hb hl).below (below_alloc (Below.refl _ _) _), ?_⟩
  have := box1 (w := w.alloc (.cells (cellsT x A2 c2 A5 c5) 45)) (below_alloc hb _) (hm.below (below_alloc (Below.refl _ _) _))
  simpa using this
/-- A term is the same as itself. -/
theorem same_self (kind : Int) (b : Bool) (L : List Int) (hl : L.length ≤ 2) (s : ByteArray) (N : Int) : relictlaw00_SameTerm.f 10 kind b L s N [] kind b L s N [] = some true := by
  simp only [relictlaw00_SameTerm.f]
  rw [if_pos trivial, same_num b L (by omega) 9 (by omega), bindS, if_pos rfl, if_pos trivial, if_pos trivial]
  simp [relictlaw00_SameTerm.j0, relictlaw00_SameTerm.l0]
end Go.Proofs.YthdmacdeefohkaaMVal
