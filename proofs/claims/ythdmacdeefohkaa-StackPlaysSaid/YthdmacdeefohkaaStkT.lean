/- A stack by what it holds: the contracts of the package stack, over a list of pairs. -/
import Derived.Test.YthdmacdeefohkaaPush
import Derived.Test.YthdmacdeefohkaaSWords
namespace Go.Proofs.YthdmacdeefohkaaStkT
open Go.RowKit Go.Proofs.YthdmacdeefohkaaW.PrintWords Go.Proofs.YthdmacdeefohkaaW.PrintLast Go.Proofs.YthdmacdeefohkaaW.PrintMore Go.Proofs.YthdmacdeefohkaaMem Go.Proofs.YthdmacdeefohkaaRow Go.Proofs.YthdmacdeefohkaaBits Go.Proofs.YthdmacdeefohkaaStk Go.Proofs.YthdmacdeefohkaaSWords Go.Proofs.YthdmacdeefohkaaPush Go.Proofs
set_option linter.unusedVariables false
set_option linter.unusedSimpArgs false
/-- A slice of numbers that came in: its elements. -/
def InRow (k : IntKind) (w : World) (a : Option Addr) (n c : Nat) (xs : List Int) : Prop := ReadsInt w k a n xs ∧ n ≤ c
/-- What frames hold: where each goes back to, and its slots. -/
def ab (fs : List Fr) : List (Int × List Int) := fs.map fun f => (f.back, f.y)
theorem ab_append (fs gs : List Fr) : ab (fs ++ gs) = ab fs ++ ab gs := by simp [ab]
theorem ab_length (fs : List Fr) : (ab fs).length = fs.length := by simp [ab]
/-- A stack that the call has made itself. -/
def T (w0 w : World) (s : Nat) (L : List (Int × List Int)) : Prop := (∃ v fs, ab fs = L ∧ St w0.heap.size w s v fs) ∧ Below w0.heap.size w0 w
def backL (L : List (Int × List Int)) : Int := match L.getLast? with | none => -1 | some f => f.1
def slotsL (L : List (Int × List Int)) : Int := match L.getLast? with | none => -1 | some f => f.2.length
def slotL (L : List (Int × List Int)) (k : Int) : Int := match L.getLast? with | none => 0 | some f => if 0 ≤ k ∧ k < (f.2.length : Nat) then f.2.getD k.toNat 0 else 0
def setYL (y : List Int) (k x : Int) : List Int := if 0 ≤ k ∧ k < (y.length : Nat) then y.set k.toNat x else y
def setL (L : List (Int × List Int)) (k x : Int) : List (Int × List Int) := match L.getLast? with | none => L | some f => L.dropLast ++ [(f.1, setYL f.2 k x)]
def sumL (L : List (Int × List Int)) : Nat := (L.map fun f => f.2.length).sum
theorem backL_last (L : List (Int × List Int)) (f : Int × List Int) : backL (L ++ [f]) = f.1 := by simp [backL]
theorem slotsL_last (L : List (Int × List Int)) (f : Int × List Int) : slotsL (L ++ [f]) = (f.2.length : Nat) := by simp [slotsL]
theorem slotL_last (L : List (Int × List Int)) (f : Int × List Int) (k : Int) : slotL (L ++ [f]) k = if 0 ≤ k ∧ k < (f.2.length : Nat) then f.2.getD k.toNat 0 else 0 := by simp [slotL]
theorem setL_last (L : List (Int × List Int)) (f : Int × List Int) (k x : Int) : setL (L ++ [f]) k x = L ++ [(f.1, setYL f.2 k x)] := by simp [setL]
theorem setL_length (L : List (Int × List Int)) (k x : Int) : (setL L k x).length = L.length := by
  rcases List.eq_nil_or_concat L with rfl | ⟨L, f, rfl⟩
  · rfl
  · rw [List.concat_eq_append, setL_last]; simp
theorem ab_back (fs : List Fr) : backOf fs = backL (ab fs) := by
  rcases nil_or_last fs with rfl | ⟨fs, f, rfl⟩
  · rfl
  · rw [backOf_last, ab_append]; simp [ab, backL]
theorem ab_slots (fs : List Fr) : slotsOf fs = slotsL (ab fs) := by
  rcases nil_or_last fs with rfl | ⟨fs, f, rfl⟩
  · rfl
  · rw [slotsOf_last, ab_append]; simp [ab, slotsL]
theorem ab_slot (fs : List Fr) (k : Int) : slotOf fs k = slotL (ab fs) k := by
  rcases nil_or_last fs with rfl | ⟨fs, f, rfl⟩
  · rfl
  · rw [slotOf_last, ab_append]; simp [ab, slotL]
theorem ab_set (fs : List Fr) (k x : Int) : ab (setOf fs k x) = setL (ab fs) k x := by
  rcases nil_or_last fs with rfl | ⟨fs, f, rfl⟩
  · rfl
  · rw [setOf_last, ab_append, ab_append, show ab [f] = [(f.back, f.y)] from rfl, setL_last]
    congr 1
    unfold setY setYL
    split <;> rfl
theorem ab_drop (fs : List Fr) : ab fs.dropLast = (ab fs).dropLast := by simp [ab]
theorem ab_sum (fs : List Fr) : ysum fs = sumL (ab fs) := by simp [ab, ysum, sumL, Function.comp_def]
section
variable {w0 w : World} {s : Nat} {L : List (Int × List Int)}
theorem T.below (h : T w0 w s L) : Below w0.heap.size w0 w := h.2
theorem T.then_ (h : T w0 w s L) {w' : World} (k : Below w.heap.size w w') : T w0 w' s L := by
  obtain ⟨⟨v, fs, rfl, hs⟩, hb⟩ := h
  exact ⟨⟨v, fs, rfl, hs.below k⟩, below_then hb hb.size k⟩
theorem T.drewN (h : T w0 w s L) (n : Nat) : T w0 (w.drewN n) s L := ⟨h.1, pw_below_drewN h.2 n⟩
theorem T.drew (h : T w0 w s L) : T w0 w.drew s L := ⟨h.1, below_drew h.2⟩
theorem T.len (h : T w0 w s L) : L.length ≤ 4000 := by
  obtain ⟨⟨v, fs, rfl, hs⟩, hb⟩ := h
  rw [ab_length]; exact hs.2.2.2.2.2.1
theorem new_t (w0 w : World) (hb : Below w0.heap.size w0 w) : Calls Try.prog 14 #[] w fun e w' => e = .returned (.pointer (some ⟨w.heap.size, 0, none⟩)) ∧ T w0 w' w.heap.size [] := by
  refine (new_calls w w0.heap.size hb.size).mono ?_
  rintro e w' ⟨rfl, h, k⟩
  exact ⟨rfl, ⟨_, [], rfl, h⟩, below_then hb hb.size k⟩
theorem push_t (back n : Int) (h : T w0 w s L) (hl : L.length < 4000) : Calls Try.prog 16 #[.pointer (some ⟨s, 0, none⟩), .int .i64 back, .int .i64 n] w fun e w' => e = .returned (.bool true) ∧ T w0 w' s (L ++ [(back, List.replicate (pushN n) 0)]) := by
  obtain ⟨⟨v, fs, rfl, hs⟩, hb⟩ := h
  rw [ab_length] at hl
  refine (push_calls w w0.heap.size s v fs back n hs hl).mono ?_
  rintro e w' ⟨rfl, v', h, k, _⟩
  exact ⟨rfl, ⟨_, _, by rw [ab_append]; rfl, h⟩, below_mods hb k hb.size (fun i hi => (hs.foot_lt i (hi.elim .inl fun x => .inr (.inl x))).1)⟩
theorem pop_t (h : T w0 w s L) : Calls Try.prog 23 #[.pointer (some ⟨s, 0, none⟩)] w fun e w' => e = .returned (.int .i64 (backL L)) ∧ T w0 w' s L.dropLast := by
  obtain ⟨⟨v, fs, rfl, hs⟩, hb⟩ := h
  refine (pop_calls w w0.heap.size s v fs hs).mono ?_
  rintro e w' ⟨rfl, h, k⟩
  exact ⟨by rw [ab_back], ⟨_, _, ab_drop fs, h⟩, below_mods hb k hb.size (fun i hi => (hs.foot_lt i (.inl hi)).1)⟩
theorem set_t (k x : Int) (h : T w0 w s L) (x0 : 0 ≤ x) (x1 : x < 18446744073709551616) : Calls Try.prog 18 #[.pointer (some ⟨s, 0, none⟩), .int .i64 k, .int .u64 x] w fun e w' => e = .returned (.tuple #[]) ∧ T w0 w' s (setL L k x) := by
  obtain ⟨⟨v, fs, rfl, hs⟩, hb⟩ := h
  refine (set_calls w w0.heap.size s v fs k x hs x0 x1).mono ?_
  rintro e w' ⟨rfl, h, k⟩
  exact ⟨rfl, ⟨_, _, ab_set fs _ _, h⟩, below_mods hb k hb.size (fun i hi => (hs.foot_lt i (.inr (.inr hi))).1)⟩
theorem back_t (h : T w0 w s L) : Calls Try.prog 21 #[.pointer (some ⟨s, 0, none⟩)] w fun e w' => e = .returned (.int .i64 (backL L)) ∧ T w0 w' s L := by
  have h' := h
  obtain ⟨⟨v, fs, rfl, hs⟩, hb⟩ := h
  refine (back_calls w w0.heap.size s v fs hs).mono ?_
  rintro e w' ⟨rfl, k⟩
  exact ⟨by rw [ab_back], h'.then_ k⟩
theorem slots_t (h : T w0 w s L) : Calls Try.prog 17 #[.pointer (some ⟨s, 0, none⟩)] w fun e w' => e = .returned (.int .i64 (slotsL L)) ∧ T w0 w' s L := by
  have h' := h
  obtain ⟨⟨v, fs, rfl, hs⟩, hb⟩ := h
  refine (slots_calls w w0.heap.size s v fs hs).mono ?_
  rintro e w' ⟨rfl, k⟩
  exact ⟨by rw [ab_slots], h'.then_ k⟩
theorem slot_t (k : Int) (h : T w0 w s L) : Calls Try.prog 22 #[.pointer (some ⟨s, 0, none⟩), .int .i64 k] w fun e w' => e = .returned (.int .u64 (slotL L k)) ∧ T w0 w' s L := by
  have h' := h
  obtain ⟨⟨v, fs, rfl, hs⟩, hb⟩ := h
  refine (slot_calls w w0.heap.size s v fs k hs).mono ?_
  rintro e w' ⟨rfl, k⟩
  exact ⟨by rw [ab_slot], h'.then_ k⟩
theorem words_t (h : T w0 w s L) : Calls Try.prog 24 #[.pointer (some ⟨s, 0, none⟩)] w fun e w' => e = .returned (.int .i64 ((L.length + sumL L : Nat) : Int)) ∧ T w0 w' s L := by
  have h' := h
  obtain ⟨⟨v, fs, rfl, hs⟩, hb⟩ := h
  refine (words_calls w w0.heap.size s v fs hs).mono ?_
  rintro e w' ⟨rfl, k⟩
  exact ⟨by rw [ab_sum, ab_length], h'.then_ k⟩
theorem depth_t (h : T w0 w s L) : Calls Try.prog 20 #[.pointer (some ⟨s, 0, none⟩)] w fun e w' => e = .returned (.int .i64 (L.length : Nat)) ∧ T w0 w' s L := by
  have h' := h
  obtain ⟨⟨v, fs, rfl, hs⟩, hb⟩ := h
  refine (depth_calls w w0.heap.size s v fs hs).mono ?_
  rintro e w' ⟨rfl, nd, rfl⟩
  exact ⟨by rw [ab_length], h'.drewN nd⟩
end
set_option maxHeartbeats 4000000 in
set_option maxRecDepth 100000 in
theorem awake_calls (w : World) : Calls Try.prog 25 #[] w fun e w' => e = .returned (.bool true) ∧ Below w.heap.size w w' := by
  go_enter Try.func25, Try.ntmps25
  go_wp2_with fail
  refine (new_t w _ (Below.refl _ _)).mono ?_
  rintro e w1 ⟨rfl, h1⟩
  have H := Aside0.mk (push_t 7 2 h1 (by decide))
  rw [show [] ++ [((7 : Int), List.replicate (pushN 2) (0 : Int))] = [(7, [0, 0])] from by decide] at H
  clear h1
  generalize w.heap.size = s at H ⊢
  go_wp2_with fail
  refine H.out.mono ?_
  rintro e w2 ⟨rfl, h1⟩
  clear H
  have H := Aside0.mk (set_t 1 11 h1 (by decide) (by decide))
  rw [show setL [((7 : Int), [(0 : Int), 0])] 1 11 = [(7, [0, 11])] from by decide] at H
  clear h1
  go_wp2_with fail
  refine H.out.mono ?_
  rintro e w3 ⟨rfl, h1⟩
  clear H
  have H := Aside0.mk (slot_t 1 h1)
  rw [show slotL [((7 : Int), [(0 : Int), 11])] 1 = 11 from by decide] at H
  clear h1
  go_wp2_with fail
  refine H.out.mono ?_
  rintro e w4 ⟨rfl, h1⟩
  clear H
  have H := Aside0.mk (depth_t h1)
  clear h1
  go_wp2_with fail
  refine H.out.mono ?_
  rintro e w5 ⟨rfl, h1⟩
  clear H
  have H := Aside0.mk (words_t h1)
  rw [show [((7 : Int), [(0 : Int), 11])].length + sumL [((7 : Int), [(0 : Int), 11])] = 3 from by decide] at H
  clear h1
  go_wp2_with fail
  refine H.out.mono ?_
  rintro e w6 ⟨rfl, h1⟩
  clear H
  have H := Aside0.mk (pop_t h1)
  rw [show backL [((7 : Int), [(0 : Int), 11])] = 7 from by decide, show [((7 : Int), [(0 : Int), 11])].dropLast = [] from by decide] at H
  clear h1
  go_wp2_with fail
  refine H.out.mono ?_
  rintro e w7 ⟨rfl, h1⟩
  clear H
  have H := Aside0.mk (pop_t h1)
  rw [show backL [] = -1 from by decide] at H
  clear h1
  go_wp2_with fail
  refine H.out.mono ?_
  rintro e w8 ⟨rfl, h1⟩
  clear H
  have HB := Aside0.mk h1.2
  clear h1
  go_wp2_with fail
  go_ret
  exact ⟨by first | rfl | (simp; done), HB.out⟩
end Go.Proofs.YthdmacdeefohkaaStkT
