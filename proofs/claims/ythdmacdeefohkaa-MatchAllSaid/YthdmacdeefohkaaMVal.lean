/- What Number tells, as plain numbers; that the program's answers and the document's are one. -/
import Derived.Test.YthdmacdeefohkaaMTerm
import Derived.Test.YthdmacdeefohkaaPMa4
import Derived.Test.YthdmacdeefohkaaPMa5
namespace Go.Proofs.YthdmacdeefohkaaMVal
open Go.RowKit Go.Proofs.YthdmacdeefohkaaW.PrintWords Go.Proofs.YthdmacdeefohkaaW.PrintLast Go.Proofs.YthdmacdeefohkaaW.PrintMore Go.Proofs.YthdmacdeefohkaaMem Go.Proofs.YthdmacdeefohkaaLeaf Go.Proofs.YthdmacdeefohkaaBits Go.Proofs.Ythdmacdeefohkaa.PMa Go.Proofs.YthdmacdeefohkaaMTerm Go.Proofs
set_option linter.unusedVariables false
set_option linter.unusedSimpArgs false
/-- The number of j bytes from place p on. -/
def valS (s : ByteArray) (p : Nat) : Nat → Int
  | 0 => 0
  | j + 1 => valS s p j * 256 + bt s ((p + j : Nat) : Int)
theorem valS_range (s : ByteArray) (p : Nat) : ∀ j, 0 ≤ valS s p j ∧ valS s p j < 256 ^ j := by
  intro j
  induction j with
  | zero => simp [valS]
  | succ j ih =>
    have hb := bt_range s ((p + j : Nat) : Int)
    simp only [valS]
    rw [Int.pow_succ]
    omega
theorem valS_small (s : ByteArray) (p j : Nat) (h : j ≤ 7) : 0 ≤ valS s p j ∧ valS s p j < 72057594037927936 := by
  have h1 := valS_range s p j
  have h2 : (256 : Int) ^ j ≤ 256 ^ 7 := by
    have : j = 0 ∨ j = 1 ∨ j = 2 ∨ j = 3 ∨ j = 4 ∨ j = 5 ∨ j = 6 ∨ j = 7 := by omega
    rcases this with rfl | rfl | rfl | rfl | rfl | rfl | rfl | rfl <;> decide
  have h3 : (256 : Int) ^ 7 = 72057594037927936 := by decide
  omega
theorem or_join_i64 (x y : Int) (hx0 : 0 ≤ x) (hx : x % 256 = 0) (hx1 : x < 9223372036854775808) (hy0 : 0 ≤ y) (hy : y < 256) : Go.bits .or .i64 x y = x + y :=
  bits_join .i64 63 (by decide) (fun n h0 h1 => by rw [IntKind.wrap_i64]; omega) 8 x y hx0 (by simpa using hx) (by simpa using hx1) hy0 (by simpa using hy) (by omega)
/-- A match's place. -/
def atP (x : S45) : Nat := (mx 0 (mn x.f3 (x.f2.size : Int))).toNat
theorem atP_le (x : S45) : atP x ≤ x.f2.size := by unfold atP mx mn; (repeat' split) <;> omega
theorem at_any (x : S45) : match_at.f x.f0 x.f1.f0 x.f1.f1 x.f2 x.f3 x.f4 = some (atP x : Int) := by
  unfold match_at.f atP mx mn
  congr 1
  (repeat' split) <;> omega
theorem left_any (x : S45) (h8 : x.f0 = 8) (hs : x.f2.size ≤ 1000000) : match_Left.f x.f0 x.f1.f0 x.f1.f1 x.f2 x.f3 x.f4 = some ((x.f2.size - atP x : Nat) : Int) := by
  unfold match_Left.f
  rw [if_pos h8, at_any x, bindS]
  have := atP_le x
  unfold wrap64; congr 1; omega
theorem behind_any (x : S45) (n : Nat) (hn : n ≤ 1000000) (hs : x.f2.size ≤ 1000000) : match_behind.f x.f0 x.f1.f0 x.f1.f1 x.f2 x.f3 x.f4 (n : Int) = some (8, false, [], x.f2, ((atP x + n : Nat) : Int), []) := by
  unfold match_behind.f
  rw [at_any x, bindS]
  have := atP_le x
  have hw : wrap64 ((atP x : Int) + (n : Int)) = ((atP x + n : Nat) : Int) := by unfold wrap64; omega
  rw [hw]
theorem number_loop (x : S45) (hs : x.f2.size ≤ 1000000) (n : Nat) (hn : n ≤ 7) (hp : atP x + n ≤ x.f2.size) : ∀ (d j k : Nat), j + d = n → d + 1 ≤ k →
    match_Number.l0 k (n : Int) (valS x.f2 (atP x) j) (j : Int) x.f0 x.f1.f0 x.f1.f1 x.f2 x.f3 x.f4 = some (1, false, limbs (valS x.f2 (atP x) n), ⟨#[]⟩, 0, [], 8, false, [], x.f2, ((atP x + n : Nat) : Int), [], true) := by
  intro d
  induction d with
  | zero =>
    intro j k hj hk
    obtain rfl : j = n := by omega
    obtain ⟨k, rfl⟩ : ∃ m, k = m + 1 := ⟨k - 1, by omega⟩
    have hv := valS_small x.f2 (atP x) j hn
    simp only [match_Number.l0]
    rw [if_pos trivial]
    unfold num_Of.f
    rw [if_pos hv.1, if_pos (by omega), bindS, behind_any x j (by omega) hs, bindS]
  | succ d ih =>
    intro j k hj hk
    obtain ⟨k, rfl⟩ : ∃ m, k = m + 1 := ⟨k - 1, by omega⟩
    have hv := valS_small x.f2 (atP x) j (by omega)
    have hv1 := valS_small x.f2 (atP x) (j + 1) (by omega)
    have hb := bt_range x.f2 ((atP x + j : Nat) : Int)
    have hw : wrap64 ((atP x : Int) + (j : Int)) = ((atP x + j : Nat) : Int) := by unfold wrap64; omega
    have hw2 : wrap64 ((j : Int) + 1) = ((j + 1 : Nat) : Int) := by unfold wrap64; omega
    simp only [valS] at hv1
    have hw3 : wrap64 (valS x.f2 (atP x) j * 256) = valS x.f2 (atP x) j * 256 := by unfold wrap64; omega
    have hw4 : wrap64 (bt x.f2 ((atP x + j : Nat) : Int)) = bt x.f2 ((atP x + j : Nat) : Int) := by unfold wrap64; omega
    simp only [match_Number.l0]
    rw [if_neg (by omega), at_any x, bindS, hw, if_pos (by omega), if_pos (by omega), hw2, hw3, hw4, or_join_i64 _ _ (by omega) (by omega) (by omega) (by omega) (by omega)]
    exact ih (j + 1) k (by omega) (by omega)
theorem number_yes (x : S45) (h8 : x.f0 = 8) (hs : x.f2.size ≤ 1000000) (n : Nat) (h1 : 1 ≤ n) (hn : n ≤ 7) (hp : atP x + n ≤ x.f2.size) :
    match_Number.f (n + 2) x.f0 x.f1.f0 x.f1.f1 x.f2 x.f3 x.f4 (n : Int) = some (1, false, limbs (valS x.f2 (atP x) n), ⟨#[]⟩, 0, [], 8, false, [], x.f2, ((atP x + n : Nat) : Int), [], true) := by
  unfold match_Number.f
  rw [if_neg (by omega), if_neg (by omega), left_any x h8 hs, bindS]
  have hd : decide ((n : Int) > ((x.f2.size - atP x : Nat) : Int)) = false := decide_eq_false (by omega)
  rw [hd]
  simp only [match_Number.j0]
  rw [if_neg (by decide)]
  exact number_loop x hs n hn hp n 0 (n + 1) (by omega) (by omega)
theorem number_no (x : S45) (hs : x.f2.size ≤ 1000000) (n : Int) (h : x.f0 ≠ 8 ∨ n < 1 ∨ n > 7 ∨ ((x.f2.size - atP x : Nat) : Int) < n) (k : Nat) :
    match_Number.f (k + 1) x.f0 x.f1.f0 x.f1.f1 x.f2 x.f3 x.f4 n = some (0, false, [], ⟨#[]⟩, 0, [], 0, false, [], ⟨#[]⟩, 0, [], false) := by
  unfold match_Number.f
  simp only [match_Number.j0]
  by_cases h1 : n < 1
  · rw [if_pos h1, if_pos trivial]
  · by_cases h7 : n > 7
    · rw [if_neg h1, if_pos h7, if_pos trivial]
    · rw [if_neg h1, if_neg h7]
      by_cases h8 : x.f0 = 8
      · rw [left_any x h8 hs, bindS, if_pos (decide_eq_true (by rcases h with h | h | h | h <;> first | exact absurd h8 h | omega))]
      · rw [left_none x h8, bindS, if_pos (decide_eq_true (by omega))]
theorem same_limbs (L : List Int) (hl : L.length ≤ 1000) : ∀ (d i k : Nat), i + d = L.length → d + 1 ≤ k → relictlaw00_SameLimbs.l0 k L L (i : Int) = some true := by
  intro d
  induction d with
  | zero =>
    intro i k hi hk
    obtain ⟨k, rfl⟩ : ∃ m, k = m + 1 := ⟨k - 1, by omega⟩
    simp only [relictlaw00_SameLimbs.l0]
    rw [if_neg (by omega)]
  | succ d ih =>
    intro i k hi hk
    obtain ⟨k, rfl⟩ : ∃ m, k = m + 1 := ⟨k - 1, by omega⟩
    simp only [relictlaw00_SameLimbs.l0]
    rw [if_pos (by omega), if_pos (by omega), if_pos (by omega), if_pos trivial, show wrap64 ((i : Int) + 1) = ((i + 1 : Nat) : Int) by unfold wrap64; omega]
    exact ih (i + 1) k (by omega) (by omega)
theorem same_num (b : Bool) (L : List Int) (hl : L.length ≤ 1000) (k : Nat) (hk : L.length + 1 ≤ k) : relictlaw00_SameNum.f k b L b L = some true := by
  unfold relictlaw00_SameNum.f relictlaw00_SameLimbs.f
  rw [if_pos (by simp), if_pos rfl]
  have := same_limbs L hl L.length 0 k (by omega) hk
  rw [show ((0 : Nat) : Int) = 0 from rfl] at this
  rw [this, bindS]
/-- I1. -/
theorem i1_tells (k : Nat) (v : Int) (h0 : 0 ≤ v) (h1 : v < 9223372036854775808) : relictlaw00_I1.f k v = some (1, false, limbs v, ⟨#[]⟩, 0, []) := by
  unfold relictlaw00_I1.f relictref19_Int.f relictref02_Of.f
  rw [if_pos h0, if_pos h1, bindS, bindS]
theorem lies_of {w : World} {B B' : Nat} {ok ok' : Nat → Prop} {a : Int} {b : Bool} {l2 : List Int} {s : ByteArray} {N : Int} {l5 : List S45} {A2 A5 : Option Addr} {c2 c5 : Nat}
    (h2 : Kd.R (Kd.int .u32) 123 w B ok (.slice A2 l2.length c2) l2) (h5 : Kd.R k45 45 w B' ok' (.slice A5 l5.length c5) l5) : Lies w ⟨a, ⟨b, l2⟩, s, N, l5⟩ A2 c2 A5 c5 :=
  ⟨(Kd.R_reads' h2).2.2, (Kd.R_reads' h2).2.1, (Kd.R_reads' h5).2.2, (Kd.R_reads' h5).2.1⟩
theorem box1 {w0 w : World} {x : S45} {A2 : Option Addr} {c2 : Nat} {A5 : Option Addr} {c5 : Nat} (hb : Below w0.heap.size w0 w) (hl : Lies w x A2 c2 A5 c5) : Box w0 (w.alloc (.cells (cellsT x A2 c2 A5 c5) 45)) w.heap.size x A2 c2 A5 c5 :=
  ⟨heap_alloc_new _ _, hl.below (below_alloc (Below.refl _ _) _), below_alloc hb _⟩
theorem box2 {w0 w : World} {x y : S45} {A2 : Option Addr} {c2 : Nat} {A5 : Option Addr} {c5 : Nat} {B2 : Option Addr} {d2 : Nat} {B5 : Option Addr} {d5 : Nat} (hb : Below w0.heap.size w0 w) (hl : Lies w x A2 c2 A5 c5) (hm : Lies w y B2 d2 B5 d5) :
    Box w0 ((w.alloc (.cells (cellsT x A2 c2 A5 c5) 45)).alloc (.cells (cellsT y B2 d2 B5 d5) 45)) w.heap.size x A2 c2 A5 c5 ∧ Box w0 ((w.alloc (.cells (cellsT x A2 c2 A5 c5) 45)).alloc (.cells (cellsT y B2 d2 B5 d5) 45)) (w.heap.size + 1) y B2 d2 B5 d5 := by
  refine ⟨(box1 hb hl).below (below_alloc (Below.refl _ _) _), ?_⟩
  have := box1 (w := w.alloc (.cells (cellsT x A2 c2 A5 c5) 45)) (below_alloc hb _) (hm.below (below_alloc (Below.refl _ _) _))
  simpa using this
/-- A term is the same as itself. -/
theorem same_self (kind : Int) (b : Bool) (L : List Int) (hl : L.length ≤ 2) (s : ByteArray) (N : Int) : relictlaw00_SameTerm.f 10 kind b L s N [] kind b L s N [] = some true := by
  simp only [relictlaw00_SameTerm.f]
  rw [if_pos trivial, same_num b L (by omega) 9 (by omega), bindS, if_pos rfl, if_pos trivial, if_pos trivial]
  simp [relictlaw00_SameTerm.j0, relictlaw00_SameTerm.l0]
end Go.Proofs.YthdmacdeefohkaaMVal
