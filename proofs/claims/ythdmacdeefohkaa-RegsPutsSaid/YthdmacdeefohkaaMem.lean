/- Plain facts on worlds: what a call leaves as it was, blocks that are known whole. -/
import Derived.Test.YthdmacdeefohkaaProg
import Derived.Below
import Derived.Deep.Draws
import Derived.Deep.AppendLies
import Derived.Maps.AppendAt
import Derived.OwnWalk
import Derived.Laws.BytesArg
import Derived.Laws.MakeOwn
import Derived.Laws.OwnMore
import Derived.Deep.OwnRows
import Derived.Tactics
import Derived.Lib.ConvBytes
import Derived.Laws.Slices
import Derived.WalkKit
import Derived.KernelRfl
import Derived.RowKit3
import Derived.Deep.LoopGhost
import Derived.Deep.QuietTactic
import Derived.BigQuiet
import Derived.WideLaws
import Derived.Deep.DeepCutAuto
import Derived.Deep.CutBlock
import Derived.Deep.RegionHeld3
import Derived.Laws.Rows
import Derived.Lib.AppendStr
import Derived.ArgAppend
import Derived.Laws.IdiomCopy
import Derived.OrdersHeld
import Derived.Laws.BitsLemmas
import Derived.RowKit
import Derived.Test.YthdmacdeefohkaaWWords
import Derived.Test.YthdmacdeefohkaaWLast
import Derived.Test.YthdmacdeefohkaaWTab
import Derived.Test.YthdmacdeefohkaaWFour
import Derived.Test.YthdmacdeefohkaaWQPut
import Derived.Test.YthdmacdeefohkaaWApart
import Derived.Test.YthdmacdeefohkaaWArr
import Derived.Test.YthdmacdeefohkaaWZeros
import Derived.Test.YthdmacdeefohkaaWFoot
import Derived.Test.YthdmacdeefohkaaWKept
import Derived.Test.YthdmacdeefohkaaWShare
import Derived.Test.YthdmacdeefohkaaWN
import Derived.Test.YthdmacdeefohkaaWFootNe
import Derived.Test.YthdmacdeefohkaaWAt
import Derived.Test.YthdmacdeefohkaaWEqStruct
import Derived.Test.YthdmacdeefohkaaWRepsOne
import Derived.Test.YthdmacdeefohkaaWInv
import Derived.Test.YthdmacdeefohkaaWInvWords
import Derived.Test.YthdmacdeefohkaaWGuard
import Derived.Test.YthdmacdeefohkaaWNEv
import Derived.Test.YthdmacdeefohkaaWMore
namespace Go.Proofs.YthdmacdeefohkaaMem
open Go.RowKit Go.Proofs.YthdmacdeefohkaaW.PrintWords Go.Proofs.YthdmacdeefohkaaW.PrintLast Go.Proofs.YthdmacdeefohkaaW.PrintMore

/-- The world w' is w, but for new blocks and for the blocks of S. -/
structure Mods (S : Nat → Prop) (w w' : World) : Prop where
  os : w'.os = w.os
  tape : w'.tape = w.tape
  output : w'.output = w.output
  size : w.heap.size ≤ w'.heap.size
  block : ∀ k, k < w.heap.size → ¬ S k → w'.heap[k]? = w.heap[k]?

section
variable {S S' : Nat → Prop} {w w' a b c : World}
theorem Mods.refl (S : Nat → Prop) (w : World) : Mods S w w := ⟨rfl, rfl, rfl, Nat.le_refl _, fun _ _ _ => rfl⟩
theorem Mods.mono (h : Mods S w w') (hs : ∀ k, S k → S' k) : Mods S' w w' := ⟨h.os, h.tape, h.output, h.size, fun k hk hn => h.block k hk (fun x => hn (hs k x))⟩
theorem Mods.trans' (h : Mods S a b) (k : Mods S' b c) (hs : ∀ i, S' i → S i ∨ a.heap.size ≤ i) : Mods S a c :=
  ⟨k.os.trans h.os, k.tape.trans h.tape, k.output.trans h.output, Nat.le_trans h.size k.size, fun i hi hn =>
    (k.block i (Nat.lt_of_lt_of_le hi h.size) (fun x => (hs i x).elim hn (fun y => by omega))).trans (h.block i hi hn)⟩
theorem Mods.trans (h : Mods S a b) (k : Mods S b c) : Mods S a c := h.trans' k fun _ x => .inl x
theorem Mods.of_below (S : Nat → Prop) (h : Below w.heap.size w w') : Mods S w w' := ⟨h.os, h.tape, h.output, h.size, fun k hk _ => h.block k hk⟩
theorem Mods.below {B : Nat} (h : Mods S w w') (hB : B ≤ w.heap.size) (hs : ∀ k, S k → B ≤ k) : Below B w w' :=
  ⟨h.os, h.tape, h.output, h.size, fun k hk => h.block k (Nat.lt_of_lt_of_le hk hB) (fun x => by have := hs k x; omega)⟩
theorem Mods.alloc (h : Mods S a b) (o : Obj) : Mods S a (b.alloc o) :=
  h.trans' (S' := fun _ => False) ⟨rfl, rfl, rfl, by simp, fun k hk _ => Below.heap_alloc _ _ _ hk⟩ fun _ x => x.elim
theorem Mods.setCell (h : Mods S a b) {p : Addr} (hp : S p.block ∨ a.heap.size ≤ p.block) (u : Value) : Mods S a (b.setCell p u) :=
  h.trans' (S' := fun k => k = p.block) ⟨rfl, rfl, rfl, by simp [World.setCell], fun k _ hn => Below.heap_setCell _ _ _ _ hn⟩ fun _ x => by rw [x]; exact hp
theorem Mods.drew (h : Mods S a b) : Mods S a b.drew := ⟨h.os, h.tape, h.output, h.size, h.block⟩
theorem Mods.drewN (h : Mods S a b) (n : Nat) : Mods S a (b.drewN n) := ⟨h.os, h.tape, h.output, h.size, h.block⟩
theorem Mods.blk (h : Mods S w w') {g : Nat} {o : Obj} (hb : w.heap[g]? = some o) (hn : ¬ S g) : w'.heap[g]? = some o := (h.block g (blk_lt hb) hn).trans hb
theorem Mods.then_below (h : Mods S a b) (k : Below b.heap.size b c) : Mods S a c := h.trans' (S' := fun _ => False) (Mods.of_below _ k) fun _ x => x.elim
theorem Mods.of_grown {row : Option Nat} (h : w.grownBy w' row) : Mods (fun k => some k = row) w w' := ⟨h.os, h.tape, h.output, h.size, fun k hk hn => h.block k hk hn⟩
theorem below_mods {B : Nat} (h : Below B w a) (k : Mods S a b) (hB : B ≤ a.heap.size) (hs : ∀ i, S i → B ≤ i) : Below B w b := h.trans (k.below hB hs)
end

theorem blk_new2 (w : World) (o o' : Obj) : ((w.alloc o).alloc o').heap[w.heap.size + 1]? = some o' := by
  have := heap_alloc_new (w.alloc o) o'
  simpa using this
theorem blk_new1 (w : World) (o o' : Obj) : ((w.alloc o).alloc o').heap[w.heap.size]? = some o := blk_alloc (by simpa using heap_alloc_new w o) o'
/-- A list of whole numbers as cells; a store. -/
theorem nums_set (k : IntKind) (xs : List Int) (i : Nat) (v : Int) : (nums k xs).toArray.setIfInBounds i (.int k v) = (nums k (xs.set i v)).toArray := by
  simp [nums, List.map_set]
theorem nums_cell {w : World} {g : Nat} {t : TypeId} {k : IntKind} {xs : List Int} (h : w.heap[g]? = some (.cells (nums k xs).toArray t (0, 0))) (i : Nat) (hi : i < xs.length) : w.cell? ⟨g, i, none⟩ = some (.int k (xs.getD i 0)) := by
  rw [blk_cell h]
  simp [nums, List.getElem?_eq_getElem hi, List.getD_eq_getElem?_getD]
theorem reads_blk {w : World} {g : Nat} {t : TypeId} {k : IntKind} {xs : List Int} (h : w.heap[g]? = some (.cells (nums k xs).toArray t (0, 0))) (m : Nat) (hm : m ≤ xs.length) (hb : m ≤ 9223372036854775807) : ReadsInt w k (some ⟨g, 0, none⟩) m (xs.take m) := by
  refine ⟨by rw [List.length_take]; omega, hb, fun _ => ⟨_, rfl, fun j hj => ?_⟩⟩
  rw [add_plain, nums_cell h j (by omega)]
  simp [List.getD_eq_getElem?_getD, hj]
end Go.Proofs.YthdmacdeefohkaaMem
