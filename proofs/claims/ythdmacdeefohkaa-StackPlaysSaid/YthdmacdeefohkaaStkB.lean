/- Roots and Load of a stack by what it holds, its frames' blocks below a place. -/
import Derived.Test.YthdmacdeefohkaaStkT
import Derived.Test.YthdmacdeefohkaaSLoad
import Derived.Test.YthdmacdeefohkaaRowK
namespace Go.Proofs.YthdmacdeefohkaaStkB
open Go.RowKit Go.Proofs.YthdmacdeefohkaaW.PrintWords Go.Proofs.YthdmacdeefohkaaW.PrintLast Go.Proofs.YthdmacdeefohkaaW.PrintMore Go.Proofs.YthdmacdeefohkaaMem Go.Proofs.YthdmacdeefohkaaRow Go.Proofs.YthdmacdeefohkaaRowK Go.Proofs.YthdmacdeefohkaaBits Go.Proofs.YthdmacdeefohkaaStk Go.Proofs.YthdmacdeefohkaaSWords Go.Proofs.YthdmacdeefohkaaSRoots Go.Proofs.YthdmacdeefohkaaSLoad Go.Proofs.YthdmacdeefohkaaPush Go.Proofs.YthdmacdeefohkaaStkT Go.Proofs
set_option linter.unusedVariables false
set_option linter.unusedSimpArgs false
/-- All slots of all frames. -/
def flatL (L : List (Int × List Int)) : List Int := L.flatMap Prod.snd
theorem flatL_append (L M : List (Int × List Int)) : flatL (L ++ M) = flatL L ++ flatL M := by simp [flatL]
theorem flatL_length (L : List (Int × List Int)) : (flatL L).length = sumL L := by simp [flatL, sumL, List.length_flatMap]
theorem ab_flat (fs : List Fr) : allY fs = flatL (ab fs) := by simp [allY, flatL, ab, List.flatMap_map]
/-- Numbers laid into all slots. -/
def loadL : List (Int × List Int) → List Int → List (Int × List Int)
  | [], _ => []
  | f :: L, xs => (f.1, xs.take f.2.length) :: loadL L (xs.drop f.2.length)
theorem ab_load (fs : List Fr) : ∀ xs, ab (loadF fs xs) = loadL (ab fs) xs := by
  induction fs with
  | nil => intro xs; rfl
  | cons f fs ih => intro xs; simp only [loadF, ab, List.map_cons, loadL] at ih ⊢; rw [ih]
theorem flatL_load (L : List (Int × List Int)) : ∀ xs, xs.length = sumL L → flatL (loadL L xs) = xs := by
  induction L with
  | nil => intro xs h; simp [sumL] at h; simp [loadL, flatL, h]
  | cons f L ih =>
    intro xs h
    simp only [sumL, List.map_cons, List.sum_cons] at h
    have := ih (xs.drop f.2.length) (by simp [sumL]; omega)
    simp only [loadL, flatL, List.flatMap_cons] at this ⊢
    rw [this]
    exact List.take_append_drop _ _
theorem loadL_length (L : List (Int × List Int)) : ∀ xs, (loadL L xs).length = L.length := by
  induction L with
  | nil => intro xs; rfl
  | cons f L ih => intro xs; simp [loadL, ih]
theorem sumL_load (L : List (Int × List Int)) (xs : List Int) (h : xs.length = sumL L) : sumL (loadL L xs) = sumL L := by
  rw [← flatL_length, flatL_load L xs h, h]
/-- A stack that the call has made itself, its frames' blocks below N. -/
def TB (w0 w : World) (s : Nat) (L : List (Int × List Int)) (N : Nat) : Prop := (∃ v fs, ab fs = L ∧ St w0.heap.size w s v fs ∧ ∀ f, f ∈ fs → f.b < N) ∧ Below w0.heap.size w0 w
section
variable {w0 w : World} {s N : Nat} {L : List (Int × List Int)}
theorem T.tb (h : T w0 w s L) : TB w0 w s L w.heap.size := by
  obtain ⟨⟨v, fs, h1, h2⟩, hb⟩ := h
  exact ⟨⟨v, fs, h1, h2, fun f hf => (h2.2.2.2.1 f hf).lt⟩, hb⟩
theorem TB.t (h : TB w0 w s L N) : T w0 w s L := by
  obtain ⟨⟨v, fs, h1, h2, _⟩, hb⟩ := h
  exact ⟨⟨v, fs, h1, h2⟩, hb⟩
theorem TB.then_ (h : TB w0 w s L N) {w' : World} (k : Below w.heap.size w w') : TB w0 w' s L N := by
  obtain ⟨⟨v, fs, h1, h2, h3⟩, hb⟩ := h
  exact ⟨⟨v, fs, h1, h2.below k, h3⟩, below_then hb hb.size k⟩
theorem TB.drewN (h : TB w0 w s L N) (n : Nat) : TB w0 (w.drewN n) s L N := ⟨h.1, pw_below_drewN h.2 n⟩
/-- What Roots hands back. -/
def RootsPost (w0 w : World) (s : Nat) (L : List (Int × List Int)) (e : Ending) (w' : World) : Prop :=
  ∃ v, e = .returned v ∧ w'.ownsRow w.heap.size 29 1 v (flatL L).length (nums .u64 (flatL L)) ∧ Below w.heap.size w w'
theorem roots_t (h : T w0 w s L) : Calls Try.prog 26 #[.pointer (some ⟨s, 0, none⟩)] w (RootsPost w0 w s L) := by
  obtain ⟨⟨v, fs, rfl, hs⟩, hb⟩ := h
  refine (roots_calls w w0.heap.size s v fs hs).mono ?_
  rintro e w' ⟨v', rfl, ho, k⟩
  rw [ab_flat] at ho
  exact ⟨v', rfl, ho, k⟩
theorem load_tb {A : Option Addr} {m c : Nat} {xs : List Int} (h : TB w0 w s L N) (hr : ReadsInt w .u64 A m xs) (hc : m ≤ c) (hn : ∀ ad, A = some ad → N ≤ ad.block) (hx : W64 xs) :
    Calls Try.prog 27 #[.pointer (some ⟨s, 0, none⟩), .slice A m c] w fun e w' => e = .returned (.bool (decide (m = sumL L))) ∧ TB w0 w' s (if m = sumL L then loadL L xs else L) N ∧ Mods (fun k => w0.heap.size ≤ k ∧ k < N) w w' := by
  obtain ⟨⟨v, fs, rfl, hs, hN⟩, hb⟩ := h
  refine (load_calls w w0.heap.size s v fs A m c xs hs hr hc ?_ hx).mono ?_
  · intro ad he hm
    obtain ⟨f, hf, hfb⟩ := List.mem_map.1 hm
    have := hn ad he
    have := hN f hf
    omega
  · rintro e w' ⟨rfl, h, k⟩
    have km : Mods (fun k => w0.heap.size ≤ k ∧ k < N) w w' := k.mono (fun i hi => by
      obtain ⟨f, hf, rfl⟩ := List.mem_map.1 hi
      exact ⟨(hs.2.2.2.1 f hf).1, hN f hf⟩)
    refine ⟨by rw [ab_sum], ⟨⟨v, _, ?_, h, ?_⟩, below_mods hb km hb.size (fun i hi => hi.1)⟩, km⟩
    · rw [ab_sum]
      split
      · exact ab_load fs xs
      · rfl
    · intro f hf
      have hm : f.b ∈ fs.map Fr.b := by
        split at hf
        · rw [← loadF_b fs xs]; exact List.mem_map_of_mem hf
        · exact List.mem_map_of_mem hf
      obtain ⟨g, hg, hgb⟩ := List.mem_map.1 hm
      rw [← hgb]
      exact hN g hg
end
end Go.Proofs.YthdmacdeefohkaaStkB
