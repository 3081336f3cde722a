/- The document's stack: Push. Turned from XPush. -/
import Derived.Test.YthdmacdeefohkaaGt
namespace Go.Proofs.YthdmacdeefohkaaGp
open Go.RowKit Go.Proofs.YthdmacdeefohkaaW.PrintWords Go.Proofs.YthdmacdeefohkaaW.PrintLast Go.Proofs.YthdmacdeefohkaaW.PrintMore Go.Proofs.YthdmacdeefohkaaMem Go.Proofs.YthdmacdeefohkaaRow Go.Proofs.YthdmacdeefohkaaRowK Go.Proofs.YthdmacdeefohkaaBits Go.Proofs.YthdmacdeefohkaaGs Go.Proofs
open Go.Proofs.YthdmacdeefohkaaStk (W64 info64 bel_alloc bel_drew)
open Go.Proofs.YthdmacdeefohkaaPush (pushN made_nums)
attribute [local go_sem] max2_int min2_int max_two min_two max_three min_three max_four min_four
set_option linter.unusedVariables false
set_option linter.unusedSimpArgs false
def newF (w : World) (back n : Int) : GF := ⟨back, .slice (some ⟨w.heap.size, 0, none⟩) (pushN n) (pushN n), List.replicate (pushN n) 0⟩
def PushPost (B s : Nat) (v : Value) (fs : List GF) (back n : Int) (w : World) (e : Ending) (w' : World) : Prop :=
  e = .returned (.bool true) ∧ ∃ v', GS B w' s v' (fs ++ [newF w back n]) ∧ Mods (fun k => k = s ∨ some k = v.ownBlock) w w' ∧ (v'.ownBlock = v.ownBlock ∨ ∃ b, v'.ownBlock = some b ∧ w.heap.size ≤ b)
theorem push_done {w w0 w1 : World} {B s : Nat} {v : Value} {fs : List GF} {back n : Int} {A A1 : Option Addr} {c c1 : Nat} (h : GS B w s v fs) (hl : fs.length < 4000) (hv : v = .slice A fs.length c)
    (how : Row w1 B 133 2 (.slice A1 (fs.length + 1) c1) (fs.length + 1) (gflat fs ++ [.int .i64 back, .slice (some ⟨w.heap.size, 0, none⟩) (pushN n) (pushN n)]))
    (hat : (Value.slice A1 (fs.length + 1) c1).ownBlock = (Value.slice A fs.length c).ownBlock ∨ ∃ b, (Value.slice A1 (fs.length + 1) c1).ownBlock = some b ∧ w0.heap.size ≤ b)
    (hg : w0.grownBy w1 (Value.slice A fs.length c).ownBlock) (hm : Mods (fun i => some i = (Value.slice A fs.length c).ownBlock) w w1) (hsz : w.heap.size < w0.heap.size)
    (hmade : w0.heap[w.heap.size]? = some (.cells (madeCells #[Value.int IntKind.u64 0] (pushN n)) 29 (0, 0))) :
    PushPost B s v fs back n w (.returned (.bool true)) (w1.setCell ⟨s, 0, none⟩ (.slice A1 (fs.length + 1) c1)) := by
  have hp : pushN n ≤ 12 := by unfold pushN; (repeat' split) <;> omega
  obtain ⟨q1, q2, q3, q4, q5, q6, q7⟩ := h
  subst hv
  have hs1 : w1.heap[s]? = some (.cells #[.slice A fs.length c] 84 (0, 0)) := hm.blk q1 (q3.ne_type q1 (by decide))
  have kk : Mods (fun i => i = s) w1 (w1.setCell ⟨s, 0, none⟩ (.slice A1 (fs.length + 1) c1)) := (Mods.refl (fun i => i = s) w1).setCell (p := ⟨s, 0, none⟩) (.inl rfl) _
  have km : Mods (fun k => k = s ∨ some k = (Value.slice A fs.length c).ownBlock) w (w1.setCell ⟨s, 0, none⟩ (.slice A1 (fs.length + 1) c1)) :=
    (hm.mono (fun _ hk => .inr hk)).setCell (p := ⟨s, 0, none⟩) (.inl (.inl rfl)) _
  refine ⟨rfl, .slice A1 (fs.length + 1) c1, ⟨?_, q2, ?_, ?_, ?_, by simp; omega, Nat.le_trans q7 km.size⟩, km, ?_⟩
  · rw [blk_set hs1 0 _]; simp
  · rw [gflat_append]
    have h1 := how.ne_type hs1 (by decide)
    have := how.mods kk (fun i hi => fun e => h1 (by rw [hi, e]))
    simpa [gflat, GF.cells, newF] using this
  · intro f hf
    rcases List.mem_append.1 hf with hf | hf
    · have h4 := q4 f hf
      have f1 : GOk B w1 f := h4.mods hm (fun i hi e => by
        obtain ⟨g', c', hv', _, _, cur, hcur, _⟩ : ∃ g' c', f.v = .slice (some ⟨g', 0, none⟩) f.y.length c' ∧ True ∧ True ∧ ∃ cur, w.heap[g']? = some (.cells cur 29 (0, 0)) ∧ True := by
          rcases h4.1.2 with ⟨hn, _⟩ | ⟨g', cap, cur, hv', _, hcur, _⟩
          · rw [hn] at hi; simp [Value.ownBlock] at hi
          · exact ⟨g', cap, hv', trivial, trivial, cur, hcur, trivial⟩
        have : g' = i := by rw [hv'] at hi; simpa [Value.ownBlock] using hi
        subst this
        exact q3.ne_type hcur (by decide) e)
      refine f1.mods kk (fun i hi e => ?_)
      exact f1.1.ne_type hs1 (by decide) (by rw [hi, e])
    · rw [List.mem_singleton] at hf
      subst hf
      have b1 : w1.heap[w.heap.size]? = some (.cells (madeCells #[Value.int IntKind.u64 0] (pushN n)) 29 (0, 0)) :=
        (hg.block w.heap.size hsz (fun e => by have := (q3.base_ _ e.symm).2; omega)).trans hmade
      rw [made_nums] at b1
      have b2 := kk.blk b1 (fun e => by have := blk_lt q1; omega)
      have hyl : (newF w back n).y.length = pushN n := by simp [newF]
      refine ⟨?_, fun x hx => by have hx2 : x ∈ List.replicate (pushN n) (0 : Int) := hx; rw [List.mem_replicate] at hx2; omega, by rw [hyl]; exact hp⟩
      rw [hyl]
      exact ⟨by simp [newF, nums], .inr ⟨w.heap.size, pushN n, _, rfl, q7, b2, Nat.le_refl _, by unfold maxLen; omega, by simp [nums], by simp [newF, nums]⟩⟩
  · rw [gbs_append, List.nodup_append]
    refine ⟨q5, by simp [gbs, newF, Value.ownBlock], fun a ha b hb => ?_⟩
    obtain ⟨f, hf, he⟩ := mem_gbs.1 ha
    have := ((q4 f hf).1.base_ a he).2
    obtain ⟨f', hf', he'⟩ := mem_gbs.1 hb
    rw [List.mem_singleton] at hf'
    subst hf'
    have : w.heap.size = b := by simpa [newF, Value.ownBlock] using he'
    omega
  · rcases hat with h1 | ⟨b, h1, h2⟩
    · exact .inl h1
    · exact .inr ⟨b, h1, by omega⟩
set_option maxHeartbeats 4000000 in
set_option maxRecDepth 100000 in
theorem push_calls (w : World) (B s : Nat) (v : Value) (fs : List GF) (back n : Int) (h : GS B w s v fs) (hl : fs.length < 4000) :
    Calls Try.prog 54 #[.pointer (some ⟨s, 0, none⟩), .int .i64 back, .int .i64 n] w (PushPost B s v fs back n w) := by
  obtain ⟨i0, hi0, hz⟩ := Option.map_eq_some_iff.1 infoG
  simp only [Prod.mk.injEq] at hz
  obtain ⟨hz0, hz1, hz2⟩ := hz
  have HI := Aside0.mk (And.intro hi0 (And.intro hz0 (And.intro hz1 hz2)))
  clear hi0 hz0 hz1 hz2
  have H := Aside0.mk h
  have s0 := h.c0
  have sf := h.f0
  obtain ⟨A, c, hv, hc⟩ := h.2.2.1.form
  have HV := Aside0.mk hv
  have hsz := blk_lt h.1
  have hm : pushN n ≤ 12 := by unfold pushN; (repeat' split) <;> omega
  obtain ⟨j, hj⟩ : ∃ j : Int, (if n < 0 then 0 else n) = j := ⟨_, rfl⟩
  have hj2 : (if 12 < j then 12 else j) = ((pushN n : Nat) : Int) := by rw [← hj]; unfold pushN; (repeat' split) <;> omega
  have hne : some s ≠ v.ownBlock := h.2.2.1.ne_type h.1 (by decide)
  rw [hv] at s0 hne
  have hrow := h.2.2.1
  have hBs := h.2.2.2.2.2.2
  rw [hv] at hrow
  have HRW := Aside0.mk (fun (W0 : World) (k : Below w.heap.size w W0) => hrow.mods (Mods.of_below (fun _ => False) k) (fun _ _ => id))
  have PF := Aside0.mk (fun (W0 w1 : World) (hg : W0.grownBy w1 (Value.slice A fs.length c).ownBlock) (k : Below w.heap.size w W0) =>
    And.intro (hg.cell (a := ⟨s, 0, none⟩) (pw_cell_below k s0) hne) (And.intro ((World.frozen?_of_block (hg.block s (Nat.lt_of_lt_of_le hsz k.size) hne)).trans ((k.frozen (p := ⟨s, 0, none⟩) hsz).trans sf)) ((Mods.of_below (fun i => some i = (Value.slice A fs.length c).ownBlock) k).trans (Mods.of_grown hg))))
  have hmk := print_make (P := Try.prog) 33 29 .u64 8 Try.underlying33 info64 (by decide) (pushN n) (by omega)
  clear h hv hrow hne
  go_enter Try.func54, Try.ntmps54
  have z1 : decide ((4000 : Int) ≤ (fs.length : Int)) = false := by simp; omega
  have z2 : ¬ (4000 : Int) ≤ (fs.length : Int) := by omega
  go_wp2
  go_region_law ((refine step_append_row rfl (.tmp 17) (.tmp 24) 82 rfl B 133 i0 _ 2 32 Try.underlying82 HI.out.1 HI.out.2.1 HI.out.2.2.1 HI.out.2.2.2 rfl (by omega) (.slice A fs.length c) fs.length (gflat fs) rfl (by exact HRW.out _ (by repeat (with_reducible first | exact Below.refl _ _ | apply below_alloc | apply below_drew | apply pw_below_drewN))) ⟨w.heap.size + 1, 0, none⟩ 1 1 [.int .i64 back, .slice (some ⟨w.heap.size, 0, none⟩) (pushN n) (pushN n)] rfl (by rfl) (by exact World.news_of_block (cs := #[.int .i64 back, .slice (some ⟨w.heap.size, 0, none⟩) (pushN n) (pushN n)]) (t := 133) (fr := (0, 0)) (blk_new2 w _ _)) (by intro u hu; simp at hu; rcases hu with rfl | rfl <;> rfl) (by simp only [maxLen]; omega) (by omega) (by simp; omega) ?_; intro A1 c1 w1 hown hg hat; obtain ⟨s1, sf1, hmm⟩ := PF.out _ _ hg (by repeat (with_reducible first | exact Below.refl _ _ | apply below_alloc | apply below_drew | apply pw_below_drewN)); have HOW := Aside0.mk hown; have HAT := Aside0.mk hat; have HG := Aside0.mk hg; have HM := Aside0.mk hmm; clear hown hg hat hmm))
  all_goals
    go_wp2
    go_ret
    exact push_done H.out hl HV.out HOW.out HAT.out HG.out HM.out (by simp; omega) (by first | exact blk_new1 _ _ _)
end Go.Proofs.YthdmacdeefohkaaGp
