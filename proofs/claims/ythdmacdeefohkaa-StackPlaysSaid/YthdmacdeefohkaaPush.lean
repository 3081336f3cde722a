/- The contract of Push. -/
import Derived.Test.YthdmacdeefohkaaStk
namespace Go.Proofs.YthdmacdeefohkaaPush
open Go.RowKit Go.Proofs.YthdmacdeefohkaaW.PrintWords Go.Proofs.YthdmacdeefohkaaW.PrintLast Go.Proofs.YthdmacdeefohkaaW.PrintMore Go.Proofs.YthdmacdeefohkaaMem Go.Proofs.YthdmacdeefohkaaRow Go.Proofs.YthdmacdeefohkaaBits Go.Proofs.YthdmacdeefohkaaStk Go.Proofs
attribute [local go_sem] max2_int min2_int max_two min_two max_three min_three max_four min_four
set_option linter.unusedVariables false
set_option linter.unusedSimpArgs false
/-- How many slots a new frame has. -/
def pushN (n : Int) : Nat := if n ≤ 0 then 0 else if n ≤ 12 then n.toNat else 12
/-- What a push leaves. -/
def PushPost (B s : Nat) (v : Value) (fs : List Fr) (back n : Int) (w : World) (e : Ending) (w' : World) : Prop :=
  e = .returned (.bool true) ∧ ∃ v', St B w' s v' (fs ++ [{ back := back, b := w.heap.size, o := 0, c := pushN n, y := List.replicate (pushN n) 0 }]) ∧ Mods (fun k => k = s ∨ some k = v.ownBlock) w w' ∧ (v'.ownBlock = v.ownBlock ∨ ∃ b, v'.ownBlock = some b ∧ w.heap.size ≤ b)
theorem made_nums (m : Nat) : madeCells #[Value.int IntKind.u64 0] m = (nums .u64 (List.replicate m 0)).toArray := by
  rw [show nums .u64 (List.replicate m 0) = List.replicate m (.int .u64 0) by simp [nums]]
  apply Array.ext
  · simp [madeCells]
  · intro i h1 h2
    simp [madeCells, Nat.mod_one]
theorem push_done {w w0 w1 : World} {B s : Nat} {v : Value} {fs : List Fr} {back n : Int} {A A1 : Option Addr} {c c1 : Nat} (h : St B w s v fs) (hl : fs.length < 4000) (hv : v = .slice A fs.length c)
    (how : Row w1 B 118 2 (.slice A1 (fs.length + 1) c1) (fs.length + 1) (flat fs ++ [.int .i64 back, .slice (some ⟨w.heap.size, 0, none⟩) (pushN n) (pushN n)]))
    (hat : (Value.slice A1 (fs.length + 1) c1).ownBlock = (Value.slice A fs.length c).ownBlock ∨ ∃ b, (Value.slice A1 (fs.length + 1) c1).ownBlock = some b ∧ w0.heap.size ≤ b)
    (hg : w0.grownBy w1 (Value.slice A fs.length c).ownBlock) (hm : Mods (fun i => some i = (Value.slice A fs.length c).ownBlock) w w1) (hsz : w.heap.size < w0.heap.size)
    (hmade : w0.heap[w.heap.size]? = some (.cells (madeCells #[Value.int IntKind.u64 0] (pushN n)) 29 (0, 0))) :
    PushPost B s v fs back n w (.returned (.bool true)) (w1.setCell ⟨s, 0, none⟩ (.slice A1 (fs.length + 1) c1)) := by
  have hp : pushN n ≤ 12 := by unfold pushN; (repeat' split) <;> omega
  obtain ⟨q1, q2, q3, q4, q5, q6, q7⟩ := h
  subst hv
  have hs1 : w1.heap[s]? = some (.cells #[.slice A fs.length c] 116 (0, 0)) := hm.blk q1 (q3.ne_type q1 (by decide))
  have kk : Mods (fun i => i = s) w1 (w1.setCell ⟨s, 0, none⟩ (.slice A1 (fs.length + 1) c1)) := (Mods.refl (fun i => i = s) w1).setCell (p := ⟨s, 0, none⟩) (.inl rfl) _
  have km : Mods (fun k => k = s ∨ some k = (Value.slice A fs.length c).ownBlock) w (w1.setCell ⟨s, 0, none⟩ (.slice A1 (fs.length + 1) c1)) :=
    (hm.mono (fun _ hk => .inr hk)).setCell (p := ⟨s, 0, none⟩) (.inl (.inl rfl)) _
  refine ⟨rfl, .slice A1 (fs.length + 1) c1, ⟨?_, q2, ?_, ?_, ?_, by simp; omega, Nat.le_trans q7 km.size⟩, km, ?_⟩
  · rw [blk_set hs1 0 _]; simp
  · rw [flat_append]
    have h1 := how.ne_type hs1 (by decide)
    have := how.mods kk (fun i hi => fun e => h1 (by rw [hi, e]))
    simpa [flat, Fr.cells] using this
  · intro f hf
    rcases List.mem_append.1 hf with hf | hf
    · obtain ⟨p1, ⟨cur, p2, p3⟩, p4⟩ := q4 f hf
      have f1 : FrOk B w1 f := FrOk.mods ⟨p1, ⟨cur, p2, p3⟩, p4⟩ hm (q3.ne_type p2 (by decide))
      exact f1.mods kk (fun e => blk_ne p2 q1 (by decide) e)
    · rw [List.mem_singleton] at hf
      subst hf
      refine ⟨q7, ⟨List.replicate (pushN n) 0, ?_, by simp, by simp⟩, by simp, hp, fun x hx => by rw [List.mem_replicate] at hx; omega⟩
      have b1 : w1.heap[w.heap.size]? = some (.cells (madeCells #[Value.int IntKind.u64 0] (pushN n)) 29 (0, 0)) :=
        (hg.block w.heap.size hsz (fun e => by have := (q3.base_ _ e.symm).2; omega)).trans hmade
      rw [made_nums] at b1
      exact kk.blk b1 (fun e => by have := blk_lt q1; simp only at e; omega)
  · rw [List.map_append, List.nodup_append]
    refine ⟨q5, by simp, fun a ha b hb => ?_⟩
    obtain ⟨f, hf, rfl⟩ := List.mem_map.1 ha
    have := (q4 f hf).lt
    simp at hb
    omega
  · rcases hat with h1 | ⟨b, h1, h2⟩
    · exact .inl h1
    · exact .inr ⟨b, h1, by omega⟩
set_option maxHeartbeats 4000000 in
set_option maxRecDepth 100000 in
theorem push_calls (w : World) (B s : Nat) (v : Value) (fs : List Fr) (back n : Int) (h : St B w s v fs) (hl : fs.length < 4000) :
    Calls Try.prog 16 #[.pointer (some ⟨s, 0, none⟩), .int .i64 back, .int .i64 n] w (PushPost B s v fs back n w) := by
  obtain ⟨i0, hi0, hz⟩ := Option.map_eq_some_iff.1 infoF
  simp only [Prod.mk.injEq] at hz
  obtain ⟨hz0, hz1, hz2⟩ := hz
  have HI := Aside0.mk (And.intro hi0 (And.intro hz0 (And.intro hz1 hz2)))
  clear hi0 hz0 hz1 hz2
  have H := Aside0.mk h
  have s0 := h.c0
  have sf := h.f0
  obtain ⟨A, c, hv, hc⟩ := h.2.2.1.form
  have HV := Aside0.mk hv
  have hsz := blk_lt h.1
  have hm : pushN n ≤ 12 := by unfold pushN; (repeat' split) <;> omega
  obtain ⟨j, hj⟩ : ∃ j : Int, (if 12 < n then 12 else n) = j := ⟨_, rfl⟩
  have hj2 : (if 0 < j then j else 0) = ((pushN n : Nat) : Int) := by rw [← hj]; unfold pushN; (repeat' split) <;> omega
  have hne : some s ≠ v.ownBlock := h.2.2.1.ne_type h.1 (by decide)
  rw [hv] at s0 hne
  have hrow := h.2.2.1
  have hBs := h.2.2.2.2.2.2
  rw [hv] at hrow
  have HRW := Aside0.mk (fun (W0 : World) (k : Below w.heap.size w W0) => hrow.mods (Mods.of_below (fun _ => False) k) (fun _ _ => id))
  have PF := Aside0.mk (fun (W0 w1 : World) (hg : W0.grownBy w1 (Value.slice A fs.length c).ownBlock) (k : Below w.heap.size w W0) =>
    And.intro (hg.cell (a := ⟨s, 0, none⟩) (pw_cell_below k s0) hne) (And.intro ((World.frozen?_of_block (hg.block s (Nat.lt_of_lt_of_le hsz k.size) hne)).trans ((k.frozen (p := ⟨s, 0, none⟩) hsz).trans sf)) ((Mods.of_below (fun i => some i = (Value.slice A fs.length c).ownBlock) k).trans (Mods.of_grown hg))))
  have hmk := print_make (P := Try.prog) 33 29 .u64 8 Try.underlying33 info64 (by decide) (pushN n) (by omega)
  clear h hv hrow hne
  go_enter Try.func16, Try.ntmps16
  have z1 : decide ((4000 : Int) ≤ (fs.length : Int)) = false := by simp; omega
  have z2 : ¬ (4000 : Int) ≤ (fs.length : Int) := by omega
  go_wp2
  go_region_law ((refine step_append_row rfl (.tmp 17) (.tmp 24) 114 rfl B 118 i0 _ 2 32 Try.underlying114 HI.out.1 HI.out.2.1 HI.out.2.2.1 HI.out.2.2.2 rfl (by omega) (.slice A fs.length c) fs.length (flat fs) rfl (by exact HRW.out _ (by repeat (with_reducible first | exact Below.refl _ _ | apply below_alloc | apply below_drew | apply pw_below_drewN))) ⟨w.heap.size + 1, 0, none⟩ 1 1 [.int .i64 back, .slice (some ⟨w.heap.size, 0, none⟩) (pushN n) (pushN n)] rfl (by rfl) (by exact World.news_of_block (cs := #[.int .i64 back, .slice (some ⟨w.heap.size, 0, none⟩) (pushN n) (pushN n)]) (t := 118) (fr := (0, 0)) (blk_new2 w _ _)) (by intro u hu; simp at hu; rcases hu with rfl | rfl <;> rfl) (by simp only [maxLen]; omega) (by omega) (by simp; omega) ?_; intro A1 c1 w1 hown hg hat; obtain ⟨s1, sf1, hmm⟩ := PF.out _ _ hg (by repeat (with_reducible first | exact Below.refl _ _ | apply below_alloc | apply below_drew | apply pw_below_drewN)); have HOW := Aside0.mk hown; have HAT := Aside0.mk hat; have HG := Aside0.mk hg; have HM := Aside0.mk hmm; clear hown hg hat hmm))
  all_goals
    go_wp2
    go_ret
    exact push_done H.out hl HV.out HOW.out HAT.out HG.out HM.out (by simp; omega) (by first | exact blk_new1 _ _ _)
end Go.Proofs.YthdmacdeefohkaaPush
