/- The program's stack: Trim. -/
import Derived.Test.YthdmacdeefohkaaStk
namespace Go.Proofs.YthdmacdeefohkaaTm
open Go.RowKit Go.Proofs.YthdmacdeefohkaaW.PrintWords Go.Proofs.YthdmacdeefohkaaW.PrintLast Go.Proofs.YthdmacdeefohkaaW.PrintMore Go.Proofs.YthdmacdeefohkaaMem Go.Proofs.YthdmacdeefohkaaRow Go.Proofs.YthdmacdeefohkaaBits Go.Proofs.YthdmacdeefohkaaStk Go.Proofs
attribute [local go_sem] max2_int min2_int max_two min_two max_three min_three max_four min_four
set_option linter.unusedVariables false
set_option linter.unusedSimpArgs false
/-- So many slots go. -/
def trimN (n : Int) (len : Nat) : Nat := if n ≤ 0 then 0 else if n ≤ (len : Int) then n.toNat else len
theorem trimN_le (n : Int) (len : Nat) : trimN n len ≤ len := by unfold trimN; (repeat' split) <;> omega
def trimF (f : Fr) (k : Nat) : Fr := { f with o := if k < f.c then f.o + k else f.o, c := f.c - k, y := f.y.drop k }
def trimOf (fs : List Fr) (n : Int) : List Fr := match fs.getLast? with | none => [] | some f => fs.dropLast ++ [trimF f (trimN n f.y.length)]
theorem trimOf_last (fs : List Fr) (f : Fr) (n : Int) : trimOf (fs ++ [f]) n = fs ++ [trimF f (trimN n f.y.length)] := by simp [trimOf]
theorem trim_done {w : World} {B s g c : Nat} {fs : List Fr} {f : Fr} (h : St B w s (.slice (some ⟨g, 0, none⟩) (fs ++ [f]).length c) (fs ++ [f])) (k : Nat) (hk : k ≤ f.y.length) (nd : Nat) :
    St B ((w.drewN nd).setCell ⟨g, fs.length * 2 + 1, none⟩ (.slice (some ⟨f.b, (trimF f k).o, none⟩) (f.y.length - k) (f.c - k))).drew s (.slice (some ⟨g, 0, none⟩) (fs ++ [f]).length c) (fs ++ [trimF f k]) ∧ Mods (fun i => some i = (Value.slice (some ⟨g, 0, none⟩) (fs ++ [f]).length c).ownBlock) w ((w.drewN nd).setCell ⟨g, fs.length * 2 + 1, none⟩ (.slice (some ⟨f.b, (trimF f k).o, none⟩) (f.y.length - k) (f.c - k))).drew := by
  obtain ⟨q1, q2, q3, q4, q5, q6, q7⟩ := h
  have km : Mods (fun i => some i = (Value.slice (some ⟨g, 0, none⟩) (fs ++ [f]).length c).ownBlock) w ((w.drewN nd).setCell ⟨g, fs.length * 2 + 1, none⟩ (.slice (some ⟨f.b, (trimF f k).o, none⟩) (f.y.length - k) (f.c - k))).drew :=
    (((Mods.refl (fun i => some i = (Value.slice (some ⟨g, 0, none⟩) (fs ++ [f]).length c).ownBlock) w).drewN nd).setCell (p := ⟨g, fs.length * 2 + 1, none⟩) (.inl rfl) _).drew
  have hb : (fs ++ [trimF f k]).map Fr.b = (fs ++ [f]).map Fr.b := by simp [trimF]
  have hfl : (flat (fs ++ [f])).set (fs.length * 2 + 1) (.slice (some ⟨f.b, (trimF f k).o, none⟩) (f.y.length - k) (f.c - k)) = flat (fs ++ [trimF f k]) := by
    rw [flat_append, flat_append, List.set_append_right _ _ (by rw [flat_length]; omega), flat_length, show fs.length * 2 + 1 - fs.length * 2 = 1 by omega]
    simp [flat, Fr.cells, trimF]
  refine ⟨⟨km.blk q1 (fun e => q3.ne_type q1 (by decide) e), q2, ?_, fun f' hf' => ?_, by rw [hb]; exact q5, by simpa using q6, Nat.le_trans q7 km.size⟩, km⟩
  · have := (show Row (w.drewN nd) B 118 2 (.slice (some ⟨g, 0, none⟩) (fs ++ [f]).length c) (fs ++ [f]).length (flat (fs ++ [f])) from q3).set_ rfl (fs.length * 2 + 1) (.slice (some ⟨f.b, (trimF f k).o, none⟩) (f.y.length - k) (f.c - k))
    rw [hfl] at this
    rw [show (fs ++ [trimF f k]).length = (fs ++ [f]).length by simp]
    exact this
  · have hmods : ∀ f', FrOk B w f' → FrOk B ((w.drewN nd).setCell ⟨g, fs.length * 2 + 1, none⟩ (.slice (some ⟨f.b, (trimF f k).o, none⟩) (f.y.length - k) (f.c - k))).drew f' := fun f' hf => by
      obtain ⟨p1, ⟨cur, p2, p3⟩, p4⟩ := hf
      exact FrOk.mods ⟨p1, ⟨cur, p2, p3⟩, p4⟩ km (q3.ne_type p2 (by decide))
    rcases List.mem_append.1 hf' with hf' | hf'
    · exact hmods f' (q4 f' (by simp [hf']))
    · rw [List.mem_singleton] at hf'
      subst hf'
      obtain ⟨p1, ⟨cur, p2, p3, p4⟩, p5, p6, p7⟩ := hmods f (q4 f (by simp))
      have hlen : (trimF f k).y.length = f.y.length - k := by simp [trimF]
      have ho : (trimF f k).o ≤ f.o + k := by simp only [trimF]; split <;> omega
      refine ⟨p1, ⟨cur, p2, by rw [hlen]; omega, ?_⟩, by rw [hlen]; show f.y.length - k ≤ f.c - k; omega, by show f.c - k ≤ 12; omega, fun x hx => p7 x (List.mem_of_mem_drop hx)⟩
      rw [hlen]
      by_cases hkc : k < f.c
      · have e : (trimF f k).o = f.o + k := by simp [trimF, hkc]
        rw [e]
        show _ = f.y.drop k
        conv => rhs; rw [← p4]
        rw [List.drop_take, List.drop_drop]
      · have e0 : f.y.length - k = 0 := by omega
        have e1 : (trimF f k).y = [] := List.eq_nil_of_length_eq_zero (by rw [hlen, e0])
        rw [e0, e1]
        simp
set_option maxHeartbeats 4000000 in
set_option maxRecDepth 100000 in
theorem trim_calls (w : World) (B s : Nat) (v : Value) (fs : List Fr) (n : Int) (h : St B w s v fs) :
    Calls Try.prog 56 #[.pointer (some ⟨s, 0, none⟩), .int .i64 n] w fun e w' => e = .returned (.tuple #[]) ∧ St B w' s v (trimOf fs n) ∧ Mods (fun i => some i = v.ownBlock) w w' := by
  have H := Aside0.mk h
  rcases nil_or_last fs with rfl | ⟨fs, f, rfl⟩
  · have HC := Aside0.mk (last_none w B s v h)
    obtain ⟨A, c, rfl, _⟩ := h.2.2.1.form
    clear h
    obtain ⟨W1, hW1⟩ : ∃ W1, w.alloc (.cells #[.int .i64 (-1), .slice none 0 0] 118) = W1 := ⟨_, rfl⟩
    obtain ⟨g, hg⟩ : ∃ g, w.heap.size = g := ⟨_, rfl⟩
    have hn1 : W1.heap[g]? = some (.cells #[.int .i64 (-1), .slice none 0 0] 118 (0, 0)) := by rw [← hW1, ← hg]; exact heap_alloc_new _ _
    have hb1 : Below w.heap.size w W1 := by rw [← hW1]; exact bel_alloc _ _
    have k1 : W1.cell? ⟨g, 1, none⟩ = some (.slice none 0 0) := (blk_cell hn1 1).trans rfl
    have k2 : W1.frozen? ⟨g, 1, none⟩ = false := blk_frozen hn1 1
    rw [hW1, hg] at HC
    obtain ⟨j, hj⟩ : ∃ j : Int, (if 0 < n then 0 else n) = j := ⟨_, rfl⟩
    have hj2 : (if 0 < j then j else 0) = 0 := by rw [← hj]; (repeat' split) <;> omega
    have HB1 := Aside0.mk (And.intro hb1 hg)
    clear hn1 hb1 hg hW1
    go_enter Try.func56, Try.ntmps56
    go_wp2_with (go_at_call 85; (with_reducible refine HC.out.mono ?_); rintro e w' ⟨rfl, rfl⟩)
    go_still_tail 16, (by kernel_rfl)
    go_wp2
    go_end0
    have hb : Below w.heap.size w (w'.setCell ⟨g, 1, none⟩ (.slice none 0 0)).drew := below_drew (below_set HB1.out.1 (by rw [HB1.out.2]; exact Nat.le_refl _))
    exact ⟨rfl, H.out.below hb, Mods.of_below _ hb⟩
  · obtain ⟨g, c, rfl, c0, c1, c2, _, l1, l2, hc⟩ := h.last_
    have HC := Aside0.mk (last_some w B s g c fs f h)
    rw [trimOf_last]
    have htr := trimN_le n f.y.length
    obtain ⟨k, hk⟩ : ∃ k, trimN n f.y.length = k := ⟨_, rfl⟩
    rw [hk] at htr ⊢
    obtain ⟨j, hj⟩ : ∃ j : Int, (if (f.y.length : Int) < n then (f.y.length : Int) else n) = j := ⟨_, rfl⟩
    have hj2 : (if 0 < j then j else 0) = (k : Int) := by rw [← hj, ← hk]; unfold trimN; (repeat' split) <;> omega
    obtain ⟨yl, hyl⟩ : ∃ yl, f.y.length = yl := ⟨_, rfl⟩
    obtain ⟨fb, hfb⟩ : ∃ fb, f.b = fb := ⟨_, rfl⟩
    obtain ⟨fo, hfo⟩ : ∃ fo, f.o = fo := ⟨_, rfl⟩
    obtain ⟨fc, hfc⟩ : ∃ fc, f.c = fc := ⟨_, rfl⟩
    have HN := Aside0.mk (And.intro hyl (And.intro hfb (And.intro hfo hfc)))
    rw [hyl] at hj htr l1 c1
    rw [hfb, hfo] at c1
    rw [hfc] at c1 l1 l2
    have e1 : (yl : Int) ≤ (fc : Int) := by omega
    have e2 : (k : Int) ≤ (yl : Int) := by omega
    have e3 : (k : Int) ≤ (fc : Int) := by omega
    clear h c0 hk hyl hfb hfo hfc
    by_cases hkc : k < fc
    · have e4 : (k : Int) < (fc : Int) := by omega
      go_enter Try.func56, Try.ntmps56
      go_wp2_with (go_at_call 85; (with_reducible refine HC.out.mono ?_); rintro e w2 ⟨rfl, nd, hw⟩; have HW := Aside0.mk hw; have d1 : w2.cell? ⟨g, fs.length * 2 + 1, none⟩ = some (.slice (some ⟨fb, fo, none⟩) yl fc) := (by rw [hw]; exact c1); have d2 : w2.frozen? ⟨g, fs.length * 2 + 1, none⟩ = false := (by rw [hw]; exact c2); clear hw c1 c2)
      go_still_tail 16, (by kernel_rfl)
      go_wp2
      go_end0
      have hd := trim_done H.out k (by have := HN.out.1; omega) nd
      obtain ⟨n1, n2, n3, n4⟩ := HN.out
      have ho : (trimF f k).o = fo + k := by simp [trimF, n4, n3, hkc]
      rw [ho, n1, n2, n4, show (fs ++ [f]).length = fs.length + 1 by simp] at hd
      rw [HW.out]
      exact ⟨rfl, hd⟩
    · obtain rfl : k = fc := by omega
      obtain rfl : yl = k := by omega
      go_enter Try.func56, Try.ntmps56
      go_wp2_with (go_at_call 85; (with_reducible refine HC.out.mono ?_); rintro e w2 ⟨rfl, nd, hw⟩; have HW := Aside0.mk hw; have d1 : w2.cell? ⟨g, fs.length * 2 + 1, none⟩ = some (.slice (some ⟨fb, fo, none⟩) yl yl) := (by rw [hw]; exact c1); have d2 : w2.frozen? ⟨g, fs.length * 2 + 1, none⟩ = false := (by rw [hw]; exact c2); clear hw c1 c2)
      go_still_tail 16, (by kernel_rfl)
      go_wp2
      go_end0
      have hd := trim_done H.out yl (by have := HN.out.1; omega) nd
      obtain ⟨n1, n2, n3, n4⟩ := HN.out
      have ho : (trimF f yl).o = fo := by simp [trimF, n4, n3]
      rw [ho, n1, n2, n4, Nat.sub_self] at hd
      rw [HW.out]
      exact ⟨rfl, hd⟩
end Go.Proofs.YthdmacdeefohkaaTm
