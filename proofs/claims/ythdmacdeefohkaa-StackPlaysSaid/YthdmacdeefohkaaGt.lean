/- The document's stack: frames that come off, that come on; roots; words. -/
import Derived.Test.YthdmacdeefohkaaGs
import Derived.Test.YthdmacdeefohkaaSRoots
import Derived.Test.YthdmacdeefohkaaSUnwind
import Derived.Test.YthdmacdeefohkaaSLoad
import Derived.Test.YthdmacdeefohkaaStkB
import Derived.Deep.RegionHeld3
namespace Go.Proofs.YthdmacdeefohkaaGt
open Go.RowKit Go.Proofs.YthdmacdeefohkaaW.PrintWords Go.Proofs.YthdmacdeefohkaaW.PrintLast Go.Proofs.YthdmacdeefohkaaW.PrintMore Go.Proofs.YthdmacdeefohkaaMem Go.Proofs.YthdmacdeefohkaaRow Go.Proofs.YthdmacdeefohkaaRowK Go.Proofs.YthdmacdeefohkaaBits Go.Proofs.YthdmacdeefohkaaGs Go.Proofs
open Go.Proofs.YthdmacdeefohkaaStk (W64 info64 bel_alloc bel_drew)
open Go.Proofs.YthdmacdeefohkaaStkT (backL slotsL slotL setYL setL sumL backL_last slotsL_last slotL_last setL_last)
attribute [local go_sem] max2_int min2_int max_two min_two max_three min_three max_four min_four
set_option linter.unusedVariables false
set_option linter.unusedSimpArgs false
/-- The first m of n; the capacity stays. -/
theorem Row.cutc {w : World} {base size n : Nat} {e : TypeId} {v : Value} {xs : List Value} (h : Row w base e size v n xs) {g c : Nat} (hv : v = .slice (some ⟨g, 0, none⟩) n c) (m : Nat) (hm : m ≤ n) : Row w base e size (.slice (some ⟨g, 0, none⟩) m c) m (xs.take (m * size)) := by
  rcases h.2 with ⟨rfl, _⟩ | ⟨g', cap, cur, rfl, hb, hgg, h1, h2, h3, htake⟩
  · cases hv
  · injection hv with q1 q2 q3
    injection q1 with q1
    injection q1 with q1
    subst q1 q3
    have hms : m * size ≤ n * size := Nat.mul_le_mul_right _ hm
    refine ⟨by rw [List.length_take, h.1]; omega, .inr ⟨g', cap, cur, rfl, hb, hgg, by omega, h2, h3, ?_⟩⟩
    rw [← htake, List.take_take, Nat.min_eq_left hms]
/-- The first frames, when the slice has been cut and is stored. -/
theorem GS.cut {B s : Nat} {w : World} {v : Value} {fs : List GF} {g c : Nat} (h : GS B w s v fs) (hv : v = .slice (some ⟨g, 0, none⟩) fs.length c) (m : Nat) (hm : m ≤ fs.length) (nd : Nat) :
    GS B ((w.drewN nd).setCell ⟨s, 0, none⟩ (.slice (some ⟨g, 0, none⟩) m c)) s (.slice (some ⟨g, 0, none⟩) m c) (fs.take m) ∧ Mods (fun k => k = s) w ((w.drewN nd).setCell ⟨s, 0, none⟩ (.slice (some ⟨g, 0, none⟩) m c)) := by
  obtain ⟨q1, q2, q3, q4, q5, q6, q7⟩ := h
  have km : Mods (fun i => i = s) w ((w.drewN nd).setCell ⟨s, 0, none⟩ (.slice (some ⟨g, 0, none⟩) m c)) := ((Mods.refl (fun i => i = s) w).drewN nd).setCell (p := ⟨s, 0, none⟩) (.inl rfl) _
  have hgs : g ≠ s := fun e => q3.ne_type q1 (by decide) (by simp [hv, Value.ownBlock, e])
  have hl : (fs.take m).length = m := by rw [List.length_take]; omega
  have hfl : gflat (fs.take m) = (gflat fs).take (m * 2) := by
    have e : gflat fs = gflat (fs.take m) ++ gflat (fs.drop m) := by rw [← gflat_append, List.take_append_drop]
    rw [e, List.take_left' (by rw [gflat_length, hl])]
  refine ⟨⟨?_, q2, ?_, fun f hf => ?_, ?_, by rw [hl]; omega, Nat.le_trans q7 km.size⟩, km⟩
  · exact blk_put (w := w.drewN nd) (cs := #[v]) q1 0 _ rfl
  · rw [hl, hfl]
    exact (Row.cutc q3 hv m hm).mods km (fun i hi e => hgs (by simp [Value.ownBlock] at hi; omega))
  · exact (q4 f (List.mem_of_mem_take hf)).mods km (fun i hi e => by
      have h1 := (q4 f (List.mem_of_mem_take hf)).1
      exact h1.ne_type q1 (by decide) (by rw [hi, e]))
  · have : gbs fs = gbs (fs.take m) ++ gbs (fs.drop m) := by rw [← gbs_append, List.take_append_drop]
    rw [this, List.nodup_append] at q5
    exact q5.1
set_option maxHeartbeats 4000000 in
set_option maxRecDepth 100000 in
theorem pop_calls (w : World) (B s : Nat) (v : Value) (fs : List GF) (h : GS B w s v fs) : Calls Try.prog 55 #[.pointer (some ⟨s, 0, none⟩)] w fun e w' => e = .returned (.int .i64 (backL (gab fs))) ∧ ∃ v', GS B w' s v' fs.dropLast ∧ v'.ownBlock = v.ownBlock ∧ Mods (fun i => i = s) w w' := by
  have H := Aside0.mk h
  rcases nil_or_last fs with rfl | ⟨fs, f, rfl⟩
  · have c0 := h.c0
    obtain ⟨A, c, rfl, _⟩ := h.2.2.1.form
    clear h
    rw [show backL (gab []) = -1 from rfl]
    go_enter Try.func55, Try.ntmps55
    go_wp2
    go_ret
    exact ⟨by first | rfl | (simp; done), _, H.out, rfl, Mods.refl _ _⟩
  · have s0 := h.c0
    have sf := h.f0
    have hl := h.2.2.2.2.2.1
    obtain ⟨g, c, rfl, hc, c1, c2, _, hgs⟩ := h.at_ fs.length (by simp)
    rw [at_last] at c1
    have HCUT := Aside0.mk (GS.cut h rfl fs.length (by simp) 0)
    rw [gab_last, backL_last]
    rw [List.length_append, List.length_singleton] at s0 hl hc
    have ht : (fs ++ [f]).take fs.length = (fs ++ [f]).dropLast := by simp
    rw [ht] at HCUT
    clear h c2 ht
    have b1 : ((fs.length : Int) + 1 == 0) = false := by rw [beq_eq_false_iff_ne]; omega
    have b2 : ¬ (fs.length : Int) + 1 = 0 := by omega
    have q2 : (fs.length : Int) ≤ (fs.length : Int) + 1 := by omega
    have q3 : (fs.length : Int) ≤ (c : Int) := by omega
    go_enter Try.func55, Try.ntmps55
    go_wp2
    go_ret
    exact ⟨by first | rfl | (simp; done), _, HCUT.out.1, rfl, HCUT.out.2⟩
/-! ### words, copied; roots -/
open Go.Proofs.YthdmacdeefohkaaSRoots (OwnPost)
open Go.Proofs.YthdmacdeefohkaaStkB (flatL flatL_append flatL_length)
set_option maxHeartbeats 4000000 in
set_option maxRecDepth 100000 in
theorem copy_calls (w : World) (A : Option Addr) (m c : Nat) (ys : List Int) (hr : ReadsInt w .u64 A m ys) (hm : m ≤ 1000000) :
    Calls Try.prog 58 #[.slice A m c] w (OwnPost w.heap.size w ys) := by
  have HR := Aside0.mk hr
  clear hr
  go_enter Try.func58, Try.ntmps58
  go_wp2_with (at_builtin; refine print_append_row (w0 := w) w.heap.size rfl (.const (.slice none 0 0)) (.tmp 3) 33 29 .u64 8 rfl Try.underlying33 info64 (by decide) (.slice none 0 0) [] ys A m c rfl rfl (World.ownsRow_nil _ _ _ _) HR.out (Below.refl _ _) (Nat.le_refl _) (by simp; omega) ?_; intro v1 w1 hown hB hg _; have HO3 := Aside0.mk hown; have HB3 := Aside0.mk hB; clear hown hB hg)
  go_ret
  exact ⟨_, by first | rfl | (simp; done), HO3.out, HB3.out⟩
theorem flat_take_succ (fs : List GF) (i : Nat) (h : i < fs.length) : flatL (gab (fs.take (i + 1))) = flatL (gab (fs.take i)) ++ (fs[i]).y := by
  rw [List.take_succ_eq_append_getElem h, gab_append, flatL_append]
  simp [flatL, gab]
theorem flat_le (fs : List GF) (h : ∀ f, f ∈ fs → f.y.length ≤ 12) : (flatL (gab fs)).length ≤ fs.length * 12 := by
  induction fs with
  | nil => simp [flatL, gab]
  | cons f fs ih =>
    have h1 := ih (fun g hg => h g (by simp [hg]))
    have h2 := h f (by simp)
    have e : flatL (gab (f :: fs)) = f.y ++ flatL (gab fs) := by simp [flatL, gab]
    rw [e, List.length_append, List.length_cons]
    omega
theorem GOk.reads {B : Nat} {w : World} {f : GF} (h : GOk B w f) : ∃ A c, f.v = .slice A f.y.length c ∧ f.y.length ≤ c ∧ ReadsInt w .u64 A f.y.length f.y := by
  obtain ⟨A, c, hv, hc, hr, _⟩ := Go.Proofs.YthdmacdeefohkaaRowK.Row.reads h.1
  exact ⟨A, c, hv, hc, hr⟩
set_option maxHeartbeats 4000000 in
set_option maxRecDepth 100000 in
theorem roots_calls (w : World) (B s : Nat) (v : Value) (fs : List GF) (h : GS B w s v fs) :
    Calls Try.prog 66 #[.pointer (some ⟨s, 0, none⟩)] w (OwnPost w.heap.size w (flatL (gab fs))) := by
  have hl := h.2.2.2.2.2.1
  have H := Aside0.mk h
  have hy : ∀ i, (flatL (gab (fs.take i))).length ≤ 48000 := fun i => by
    have h1 := flat_le (fs.take i) (fun f hf => (h.2.2.2.1 f (List.mem_of_mem_take hf)).2.2)
    have h2 : (fs.take i).length ≤ 4000 := by rw [List.length_take]; omega
    omega
  have HY := Aside0.mk hy
  obtain ⟨A, c, hv, hc⟩ := h.2.2.1.form
  have c0 := h.c0
  rw [hv] at c0
  have HVV := Aside0.mk hv
  have HC0 := Aside0.mk c0
  clear h hy hv c0
  go_enter Try.func66, Try.ntmps66
  go_wp2
  go_loopg [3, 4] (fs.length) (fun k v3 v4 wr => ∃ i : Nat, k = fs.length - i ∧ i ≤ fs.length ∧ v4 = .int .i64 i ∧ Aside0 (wr.ownsRow w.heap.size 29 1 v3 (flatL (gab (fs.take i))).length (nums .u64 (flatL (gab (fs.take i))))) ∧ Aside0 (Below w.heap.size w wr))
  case atStart => exact ⟨0, by omega, by omega, rfl, ⟨own_nil _ _ _ _⟩, ⟨Below.refl _ _⟩⟩
  case round =>
    obtain ⟨i, rfl, hi, rfl, HO, HB⟩ := hrel
    have c0 := pw_cell_below HB.out HC0.out
    by_cases hlt : i < fs.length
    · have HS := Aside0.mk (flat_take_succ fs i hlt)
      obtain ⟨g, c', hv', hc', c1, c2, _, _⟩ := (H.out.below HB.out).at_ i hlt
      rw [HVV.out] at hv'
      injection hv' with e1 _ e3
      subst e1 e3
      have hm := HY.out i
      have hok := (H.out.below HB.out).2.2.2.1 _ (List.getElem_mem hlt)
      have hfl := hok.2.2
      obtain ⟨Ay, cy, hvy, _, hry⟩ := GOk.reads hok
      rw [hvy] at c2
      have HLL := Aside0.mk (And.intro hm hfl)
      generalize ((fs[i]).y) = fy at c2 HS hfl hry HLL
      have HR := Aside0.mk hry
      clear hry hm hfl hok hvy c1
      have b1 : (i : Int) < (fs.length : Int) := by omega
      go_wp2_with (at_builtin; refine print_append_row (w0 := w) w.heap.size rfl (.tmp 14) (.tmp 22) 33 29 .u64 8 rfl Try.underlying33 info64 (by decide) _ (flatL (gab (fs.take i))) fy Ay fy.length cy rfl rfl HO.out HR.out HB.out HB.out.size (by have := HLL.out; omega) ?_; intro v1 w1 hown hB hg _; have HO3 := Aside0.mk hown; have HB3 := Aside0.mk hB; clear hown hB hg)
      go_roundg (fs.length - (i + 1))
      case measure => omega
      case rel => exact ⟨i + 1, rfl, by omega, by go_num, by rw [HS.out]; exact HO3, HB3⟩
    · have : i = fs.length := by omega
      subst this
      have b1 : ¬ (fs.length : Int) < (fs.length : Int) := by omega
      go_wp2
      go_ret
      exact ⟨_, by first | rfl | (simp; done), by have := HO.out; rwa [List.take_length] at this, HB.out⟩
theorem own_slice {W : World} {b : Nat} {v : Value} {m : Nat} {xs : List Value} {e : TypeId} (h : W.ownsRow b e 1 v m xs) : ∃ A c, v = .slice A m c := by
  obtain ⟨A, c, h, _⟩ := (Row.of_own h).form
  exact ⟨A, c, h⟩
set_option maxHeartbeats 4000000 in
set_option maxRecDepth 100000 in
theorem words_calls (w : World) (B s : Nat) (v : Value) (fs : List GF) (h : GS B w s v fs) :
    Calls Try.prog 65 #[.pointer (some ⟨s, 0, none⟩)] w fun e w' => e = .returned (.int .i64 ((fs.length + (flatL (gab fs)).length : Nat) : Int)) ∧ Below w.heap.size w w' := by
  have HW := Aside0.mk (roots_calls w.drew B s v fs (show GS B w.drew s v fs from h))
  have hl := h.2.2.2.2.2.1
  have hfl := flat_le fs (fun f hf => (h.2.2.2.1 f hf).2.2)
  obtain ⟨A, c, hv, hc⟩ := h.2.2.1.form
  have c0 := h.c0
  rw [hv] at c0
  obtain ⟨Y, hY⟩ : ∃ Y, (flatL (gab fs)).length = Y := ⟨_, rfl⟩
  rw [hY] at hfl ⊢
  have HYY := Aside0.mk hY
  clear h hv hY
  go_enter Try.func65, Try.ntmps65
  go_wp2
  go_region_held3 (fun w' => w'.cell? ⟨s, 0, none⟩ = some (.slice A fs.length c))
    (first | go_keep | assumption)
    ((first
      | (go_at_call 66; refine HW.out.mono ?_; rintro e w2 ⟨v2, rfl, ho, hb⟩; have HB := Aside0.mk ((below_drew (Below.refl w.heap.size w)).trans hb); have cw_keep := pw_cell_below HB.out c0; obtain ⟨A2, k2, hv2⟩ := own_slice ho; subst hv2; rw [HYY.out]; clear hb ho)))
  have hwr : IntKind.i64.wrap ((fs.length : Int) + (Y : Int)) = (fs.length : Int) + (Y : Int) := by rw [IntKind.wrap_i64]; omega
  rw [hwr]
  clear hwr
  go_wp2
  go_ret
  exact ⟨by first | rfl | (simp; done) | (congr 1; omega), HB.out⟩
end Go.Proofs.YthdmacdeefohkaaGt
